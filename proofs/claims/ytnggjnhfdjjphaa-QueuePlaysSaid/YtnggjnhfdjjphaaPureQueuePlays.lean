/- The law QueuePlays, of what the walk has printed: over numbers and lists alone. -/
import Derived.Test.YtnggjnhfdjjphaaPQPx5
namespace Go.Proofs.Ytnggjnhfdjjphaa.Pure
open Go.RowKit Go.Proofs.Ytnggjnhfdjjphaa.PQP Go.Proofs.YtnggjnhfdjjphaaW.PrintWords Go.Proofs.YtnggjnhfdjjphaaW.PrintLast Go.Proofs.YtnggjnhfdjjphaaW.PrintMore
theorem QueuePlays : plaitinglaw14_QueuePlays.Pure := by
  intro l0 l1 _ _ _ _ _ _
  unfold plaitinglaw14_QueuePlays.f
  rw [show plaitinglaw14_known.f = some true from by unfold plaitinglaw14_known.f; rfl, Option.bind_some, if_pos rfl]
end Go.Proofs.Ytnggjnhfdjjphaa.Pure
