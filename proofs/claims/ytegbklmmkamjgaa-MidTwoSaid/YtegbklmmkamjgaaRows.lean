/-
  No cell of these rows narrows 'for every input' (looked for: loops, veiled, ifaces, maps, wideKeys, modest, calm, conditions, laid).
  DERIVED. THE GIVEN ROWS OF THIS SEAT. 11 by the template 'for every input the law returns true; each argument reads behind the call as it read before'; 0 by the template 'total and deterministic' (their statements: YtegbklmmkamjgaaTotals.lean).
  GIVEN WITH THE SEED: the statements are not yours to turn. If you find one false, say at which input.
  Laid BY PROGRAM, IN A SANDBOX (cutbox-rows.mjs): the forced cells as the released guide's own fill.sh prints them over the translation b03bfaf3fc7ed047… (all of the seat's roots in one cut). By AI agents, Wed Nov 11 2026. No macro, syntax, notation, axiom, sorry.
-/
import Derived.Test.YtegbklmmkamjgaaChecked
import GoSem.Claim
import GoSem.ClaimJoined
import GoSem.ClaimMapViews
import Derived.JoinedTies
import Derived.KernelRfl
namespace Go.Proofs.Ytegbklmmkamjgaa
/- THE CELL 'sum', in the pinned program and in every row, IS THE sha256 OF THE DUMP (.gsa) THAT YtegbklmmkamjgaaProg.lean LOADS. Nothing in Lean hashes anything: it is a label: what it is worth is what the hold of that sum in a sandbox is worth. -/
noncomputable def Try.pinned : Pinned := { name := "ytegbklmmkamjgaa", sum := "b03bfaf3fc7ed047e520d252856f7006f63ec6c9bbe1c68759d34e262d9328f0", checked := Try.checked }
namespace Rows
def none {H : Type} : Left H := { results := [], args := [] }

/-- 'plaitinglaw11.MidAll': WHATEVER THE INPUT: true; the input reads as it did. -/
def midAllSpec : ChangeSpec := { name := "midAll", fn := fun _ => fun
  | [d1, d2, d3] => { results := [.lit (.bool true)], args := [d1, d2, d3] }
  | _ => none }
def midAllRow : OpenClaim := { program := "ytegbklmmkamjgaa", sum := "b03bfaf3fc7ed047e520d252856f7006f63ec6c9bbe1c68759d34e262d9328f0", func := "plaiting/plaitinglaw11.MidAll", spec := "midAll", unfollowed := true, recurses := true, apart := false }
def MidAllSaid : Prop := midAllRow.holds Try.pinned (OpenSpec.ofChange midAllSpec)

/-- ITS FALSE NEIGHBOUR: 'it returns false'. Refute it at one input. -/
def midAllWrong : ChangeSpec := { name := "midAll", fn := fun _ => fun
  | [d1, d2, d3] => { results := [.lit (.bool false)], args := [d1, d2, d3] }
  | _ => none }
def MidAllWrongFalsely : Prop := midAllRow.holds Try.pinned (OpenSpec.ofChange midAllWrong)

/-- 'plaitinglaw11.MidBetween': WHATEVER THE INPUT: true; the input reads as it did. -/
def midBetweenSpec : ChangeSpec := { name := "midBetween", fn := fun _ => fun
  | [d1, d2] => { results := [.lit (.bool true)], args := [d1, d2] }
  | _ => none }
def midBetweenRow : OpenClaim := { program := "ytegbklmmkamjgaa", sum := "b03bfaf3fc7ed047e520d252856f7006f63ec6c9bbe1c68759d34e262d9328f0", func := "plaiting/plaitinglaw11.MidBetween", spec := "midBetween", unfollowed := true, recurses := true, apart := false }
def MidBetweenSaid : Prop := midBetweenRow.holds Try.pinned (OpenSpec.ofChange midBetweenSpec)

/-- ITS FALSE NEIGHBOUR: 'it returns false'. Refute it at one input. -/
def midBetweenWrong : ChangeSpec := { name := "midBetween", fn := fun _ => fun
  | [d1, d2] => { results := [.lit (.bool false)], args := [d1, d2] }
  | _ => none }
def MidBetweenWrongFalsely : Prop := midBetweenRow.holds Try.pinned (OpenSpec.ofChange midBetweenWrong)

/-- 'plaitinglaw11.MidOne': WHATEVER THE INPUT: true; the input reads as it did. -/
def midOneSpec : ChangeSpec := { name := "midOne", fn := fun _ => fun
  | [d1, d2, d3] => { results := [.lit (.bool true)], args := [d1, d2, d3] }
  | _ => none }
def midOneRow : OpenClaim := { program := "ytegbklmmkamjgaa", sum := "b03bfaf3fc7ed047e520d252856f7006f63ec6c9bbe1c68759d34e262d9328f0", func := "plaiting/plaitinglaw11.MidOne", spec := "midOne", unfollowed := true, recurses := true, apart := false }
def MidOneSaid : Prop := midOneRow.holds Try.pinned (OpenSpec.ofChange midOneSpec)

/-- ITS FALSE NEIGHBOUR: 'it returns false'. Refute it at one input. -/
def midOneWrong : ChangeSpec := { name := "midOne", fn := fun _ => fun
  | [d1, d2, d3] => { results := [.lit (.bool false)], args := [d1, d2, d3] }
  | _ => none }
def MidOneWrongFalsely : Prop := midOneRow.holds Try.pinned (OpenSpec.ofChange midOneWrong)

/-- 'plaitinglaw11.MidTwo': WHATEVER THE INPUT: true; the input reads as it did. -/
def midTwoSpec : ChangeSpec := { name := "midTwo", fn := fun _ => fun
  | [d1, d2, d3, d4, d5, d6] => { results := [.lit (.bool true)], args := [d1, d2, d3, d4, d5, d6] }
  | _ => none }
def midTwoRow : OpenClaim := { program := "ytegbklmmkamjgaa", sum := "b03bfaf3fc7ed047e520d252856f7006f63ec6c9bbe1c68759d34e262d9328f0", func := "plaiting/plaitinglaw11.MidTwo", spec := "midTwo", unfollowed := true, recurses := true, apart := false }
def MidTwoSaid : Prop := midTwoRow.holds Try.pinned (OpenSpec.ofChange midTwoSpec)

/-- ITS FALSE NEIGHBOUR: 'it returns false'. Refute it at one input. -/
def midTwoWrong : ChangeSpec := { name := "midTwo", fn := fun _ => fun
  | [d1, d2, d3, d4, d5, d6] => { results := [.lit (.bool false)], args := [d1, d2, d3, d4, d5, d6] }
  | _ => none }
def MidTwoWrongFalsely : Prop := midTwoRow.holds Try.pinned (OpenSpec.ofChange midTwoWrong)

/-- 'plaitinglaw11.MidKnown': WHATEVER THE INPUT: true; the input reads as it did. -/
def midKnownSpec : ChangeSpec := { name := "midKnown", fn := fun _ => fun
  | [d] => { results := [.lit (.bool true)], args := [d] }
  | _ => none }
def midKnownRow : OpenClaim := { program := "ytegbklmmkamjgaa", sum := "b03bfaf3fc7ed047e520d252856f7006f63ec6c9bbe1c68759d34e262d9328f0", func := "plaiting/plaitinglaw11.MidKnown", spec := "midKnown", unfollowed := true, recurses := true, apart := false }
def MidKnownSaid : Prop := midKnownRow.holds Try.pinned (OpenSpec.ofChange midKnownSpec)

/-- ITS FALSE NEIGHBOUR: 'it returns false'. Refute it at one input. -/
def midKnownWrong : ChangeSpec := { name := "midKnown", fn := fun _ => fun
  | [d] => { results := [.lit (.bool false)], args := [d] }
  | _ => none }
def MidKnownWrongFalsely : Prop := midKnownRow.holds Try.pinned (OpenSpec.ofChange midKnownWrong)

/-- 'plaitinglaw11.MidRises': WHATEVER THE INPUT: true; the input reads as it did. -/
def midRisesSpec : ChangeSpec := { name := "midRises", fn := fun _ => fun
  | [d1, d2, d3] => { results := [.lit (.bool true)], args := [d1, d2, d3] }
  | _ => none }
def midRisesRow : OpenClaim := { program := "ytegbklmmkamjgaa", sum := "b03bfaf3fc7ed047e520d252856f7006f63ec6c9bbe1c68759d34e262d9328f0", func := "plaiting/plaitinglaw11.MidRises", spec := "midRises", unfollowed := true, recurses := true, apart := false }
def MidRisesSaid : Prop := midRisesRow.holds Try.pinned (OpenSpec.ofChange midRisesSpec)

/-- ITS FALSE NEIGHBOUR: 'it returns false'. Refute it at one input. -/
def midRisesWrong : ChangeSpec := { name := "midRises", fn := fun _ => fun
  | [d1, d2, d3] => { results := [.lit (.bool false)], args := [d1, d2, d3] }
  | _ => none }
def MidRisesWrongFalsely : Prop := midRisesRow.holds Try.pinned (OpenSpec.ofChange midRisesWrong)

/-- 'plaitinglaw12.SyncHolds': WHATEVER THE INPUT: true; the input reads as it did. -/
def syncHoldsSpec : ChangeSpec := { name := "syncHolds", fn := fun _ => fun
  | [d1, d2, d3, d4, d5] => { results := [.lit (.bool true)], args := [d1, d2, d3, d4, d5] }
  | _ => none }
def syncHoldsRow : OpenClaim := { program := "ytegbklmmkamjgaa", sum := "b03bfaf3fc7ed047e520d252856f7006f63ec6c9bbe1c68759d34e262d9328f0", func := "plaiting/plaitinglaw12.SyncHolds", spec := "syncHolds", unfollowed := true, recurses := true, apart := false }
def SyncHoldsSaid : Prop := syncHoldsRow.holds Try.pinned (OpenSpec.ofChange syncHoldsSpec)

/-- ITS FALSE NEIGHBOUR: 'it returns false'. Refute it at one input. -/
def syncHoldsWrong : ChangeSpec := { name := "syncHolds", fn := fun _ => fun
  | [d1, d2, d3, d4, d5] => { results := [.lit (.bool false)], args := [d1, d2, d3, d4, d5] }
  | _ => none }
def SyncHoldsWrongFalsely : Prop := syncHoldsRow.holds Try.pinned (OpenSpec.ofChange syncHoldsWrong)

/-- 'plaitinglaw12.SyncJoins': WHATEVER THE INPUT: true; the input reads as it did. -/
def syncJoinsSpec : ChangeSpec := { name := "syncJoins", fn := fun _ => fun
  | [d1, d2, d3, d4] => { results := [.lit (.bool true)], args := [d1, d2, d3, d4] }
  | _ => none }
def syncJoinsRow : OpenClaim := { program := "ytegbklmmkamjgaa", sum := "b03bfaf3fc7ed047e520d252856f7006f63ec6c9bbe1c68759d34e262d9328f0", func := "plaiting/plaitinglaw12.SyncJoins", spec := "syncJoins", unfollowed := true, recurses := true, apart := false }
def SyncJoinsSaid : Prop := syncJoinsRow.holds Try.pinned (OpenSpec.ofChange syncJoinsSpec)

/-- ITS FALSE NEIGHBOUR: 'it returns false'. Refute it at one input. -/
def syncJoinsWrong : ChangeSpec := { name := "syncJoins", fn := fun _ => fun
  | [d1, d2, d3, d4] => { results := [.lit (.bool false)], args := [d1, d2, d3, d4] }
  | _ => none }
def SyncJoinsWrongFalsely : Prop := syncJoinsRow.holds Try.pinned (OpenSpec.ofChange syncJoinsWrong)

/-- 'plaitinglaw12.SyncKnown': WHATEVER THE INPUT: true; the input reads as it did. -/
def syncKnownSpec : ChangeSpec := { name := "syncKnown", fn := fun _ => fun
  | [d] => { results := [.lit (.bool true)], args := [d] }
  | _ => none }
def syncKnownRow : OpenClaim := { program := "ytegbklmmkamjgaa", sum := "b03bfaf3fc7ed047e520d252856f7006f63ec6c9bbe1c68759d34e262d9328f0", func := "plaiting/plaitinglaw12.SyncKnown", spec := "syncKnown", unfollowed := true, recurses := true, apart := false }
def SyncKnownSaid : Prop := syncKnownRow.holds Try.pinned (OpenSpec.ofChange syncKnownSpec)

/-- ITS FALSE NEIGHBOUR: 'it returns false'. Refute it at one input. -/
def syncKnownWrong : ChangeSpec := { name := "syncKnown", fn := fun _ => fun
  | [d] => { results := [.lit (.bool false)], args := [d] }
  | _ => none }
def SyncKnownWrongFalsely : Prop := syncKnownRow.holds Try.pinned (OpenSpec.ofChange syncKnownWrong)

/-- 'plaitinglaw12.SyncSkews': WHATEVER THE INPUT: true; the input reads as it did. -/
def syncSkewsSpec : ChangeSpec := { name := "syncSkews", fn := fun _ => fun
  | [d1, d2] => { results := [.lit (.bool true)], args := [d1, d2] }
  | _ => none }
def syncSkewsRow : OpenClaim := { program := "ytegbklmmkamjgaa", sum := "b03bfaf3fc7ed047e520d252856f7006f63ec6c9bbe1c68759d34e262d9328f0", func := "plaiting/plaitinglaw12.SyncSkews", spec := "syncSkews", unfollowed := true, recurses := true, apart := false }
def SyncSkewsSaid : Prop := syncSkewsRow.holds Try.pinned (OpenSpec.ofChange syncSkewsSpec)

/-- ITS FALSE NEIGHBOUR: 'it returns false'. Refute it at one input. -/
def syncSkewsWrong : ChangeSpec := { name := "syncSkews", fn := fun _ => fun
  | [d1, d2] => { results := [.lit (.bool false)], args := [d1, d2] }
  | _ => none }
def SyncSkewsWrongFalsely : Prop := syncSkewsRow.holds Try.pinned (OpenSpec.ofChange syncSkewsWrong)

/-- 'plaitinglaw12.SyncFirst': WHATEVER THE INPUT: true; the input reads as it did. -/
def syncFirstSpec : ChangeSpec := { name := "syncFirst", fn := fun _ => fun
  | [d1, d2, d3, d4, d5] => { results := [.lit (.bool true)], args := [d1, d2, d3, d4, d5] }
  | _ => none }
def syncFirstRow : OpenClaim := { program := "ytegbklmmkamjgaa", sum := "b03bfaf3fc7ed047e520d252856f7006f63ec6c9bbe1c68759d34e262d9328f0", func := "plaiting/plaitinglaw12.SyncFirst", spec := "syncFirst", unfollowed := true, recurses := true, apart := false }
def SyncFirstSaid : Prop := syncFirstRow.holds Try.pinned (OpenSpec.ofChange syncFirstSpec)

/-- ITS FALSE NEIGHBOUR: 'it returns false'. Refute it at one input. -/
def syncFirstWrong : ChangeSpec := { name := "syncFirst", fn := fun _ => fun
  | [d1, d2, d3, d4, d5] => { results := [.lit (.bool false)], args := [d1, d2, d3, d4, d5] }
  | _ => none }
def SyncFirstWrongFalsely : Prop := syncFirstRow.holds Try.pinned (OpenSpec.ofChange syncFirstWrong)

/- THE SECOND FORM. 'bulk': how many values and letters a reading holds, each counted each time it is reached (what is shared counts as often as it is met; a slice's spare places count too). A statement '..UptoSaid' is the law's where the arguments, and the package variables that the reading takes, are together of bulk at most 1048576: NARROWER than '..Said'. Prove '..Said' where nothing that the law and all that it calls make is longer than what came in: it says more and counts as full. Else prove '..UptoSaid'. A law counts once. -/
mutual
def uptoBulk {H : Type} : DataW H → Nat
  | .lit (.string bytes) => bytes.length + 1
  | .lit _ => 1
  | .nil => 1
  | .ptr d => uptoBulk d + 1
  | .slice elems spare => uptoBulkAll elems + uptoBulkAll spare + 1
  | .agg parts => uptoBulkAll parts + 1
  | .iface _ d => uptoBulk d + 1
  | .map entries => uptoBulkEntries entries + 1
  | .held _ => 1
def uptoBulkAll {H : Type} : List (DataW H) → Nat
  | [] => 0
  | d :: r => uptoBulk d + uptoBulkAll r
def uptoBulkEntries {H : Type} : List (Lit × DataW H) → Nat
  | [] => 0
  | x :: r => uptoBulkEntry x + uptoBulkEntries r
def uptoBulkEntry {H : Type} : Lit × DataW H → Nat
  | (.string bytes, d) => bytes.length + uptoBulk d + 1
  | (_, d) => uptoBulk d + 1
 end
def uptoSmall : (H : Type) → List (DataW H) → Bool := fun _ ds => decide (uptoBulkAll ds ≤ 1048576)
def OpenSpec.upto (s : _root_.Go.ChangeSpec) : _root_.Go.OpenSpec := { _root_.Go.OpenSpec.ofChange s with cond := some uptoSmall }

/-- 'plaitinglaw11.MidAll', WHERE WHAT IT READS IS OF BULK AT MOST 1048576: true; the input reads as it did. -/
def midAllUptoRow : OpenClaim := { program := "ytegbklmmkamjgaa", sum := "b03bfaf3fc7ed047e520d252856f7006f63ec6c9bbe1c68759d34e262d9328f0", func := "plaiting/plaitinglaw11.MidAll", spec := "midAll", unfollowed := true, recurses := true, apart := false, narrowed := true }
def MidAllUptoSaid : Prop := midAllUptoRow.holds Try.pinned (OpenSpec.upto midAllSpec)

/-- 'plaitinglaw11.MidBetween', WHERE WHAT IT READS IS OF BULK AT MOST 1048576: true; the input reads as it did. -/
def midBetweenUptoRow : OpenClaim := { program := "ytegbklmmkamjgaa", sum := "b03bfaf3fc7ed047e520d252856f7006f63ec6c9bbe1c68759d34e262d9328f0", func := "plaiting/plaitinglaw11.MidBetween", spec := "midBetween", unfollowed := true, recurses := true, apart := false, narrowed := true }
def MidBetweenUptoSaid : Prop := midBetweenUptoRow.holds Try.pinned (OpenSpec.upto midBetweenSpec)

/-- 'plaitinglaw11.MidOne', WHERE WHAT IT READS IS OF BULK AT MOST 1048576: true; the input reads as it did. -/
def midOneUptoRow : OpenClaim := { program := "ytegbklmmkamjgaa", sum := "b03bfaf3fc7ed047e520d252856f7006f63ec6c9bbe1c68759d34e262d9328f0", func := "plaiting/plaitinglaw11.MidOne", spec := "midOne", unfollowed := true, recurses := true, apart := false, narrowed := true }
def MidOneUptoSaid : Prop := midOneUptoRow.holds Try.pinned (OpenSpec.upto midOneSpec)

/-- 'plaitinglaw11.MidTwo', WHERE WHAT IT READS IS OF BULK AT MOST 1048576: true; the input reads as it did. -/
def midTwoUptoRow : OpenClaim := { program := "ytegbklmmkamjgaa", sum := "b03bfaf3fc7ed047e520d252856f7006f63ec6c9bbe1c68759d34e262d9328f0", func := "plaiting/plaitinglaw11.MidTwo", spec := "midTwo", unfollowed := true, recurses := true, apart := false, narrowed := true }
def MidTwoUptoSaid : Prop := midTwoUptoRow.holds Try.pinned (OpenSpec.upto midTwoSpec)

/-- 'plaitinglaw11.MidKnown', WHERE WHAT IT READS IS OF BULK AT MOST 1048576: true; the input reads as it did. -/
def midKnownUptoRow : OpenClaim := { program := "ytegbklmmkamjgaa", sum := "b03bfaf3fc7ed047e520d252856f7006f63ec6c9bbe1c68759d34e262d9328f0", func := "plaiting/plaitinglaw11.MidKnown", spec := "midKnown", unfollowed := true, recurses := true, apart := false, narrowed := true }
def MidKnownUptoSaid : Prop := midKnownUptoRow.holds Try.pinned (OpenSpec.upto midKnownSpec)

/-- 'plaitinglaw11.MidRises', WHERE WHAT IT READS IS OF BULK AT MOST 1048576: true; the input reads as it did. -/
def midRisesUptoRow : OpenClaim := { program := "ytegbklmmkamjgaa", sum := "b03bfaf3fc7ed047e520d252856f7006f63ec6c9bbe1c68759d34e262d9328f0", func := "plaiting/plaitinglaw11.MidRises", spec := "midRises", unfollowed := true, recurses := true, apart := false, narrowed := true }
def MidRisesUptoSaid : Prop := midRisesUptoRow.holds Try.pinned (OpenSpec.upto midRisesSpec)

/-- 'plaitinglaw12.SyncHolds', WHERE WHAT IT READS IS OF BULK AT MOST 1048576: true; the input reads as it did. -/
def syncHoldsUptoRow : OpenClaim := { program := "ytegbklmmkamjgaa", sum := "b03bfaf3fc7ed047e520d252856f7006f63ec6c9bbe1c68759d34e262d9328f0", func := "plaiting/plaitinglaw12.SyncHolds", spec := "syncHolds", unfollowed := true, recurses := true, apart := false, narrowed := true }
def SyncHoldsUptoSaid : Prop := syncHoldsUptoRow.holds Try.pinned (OpenSpec.upto syncHoldsSpec)

/-- 'plaitinglaw12.SyncJoins', WHERE WHAT IT READS IS OF BULK AT MOST 1048576: true; the input reads as it did. -/
def syncJoinsUptoRow : OpenClaim := { program := "ytegbklmmkamjgaa", sum := "b03bfaf3fc7ed047e520d252856f7006f63ec6c9bbe1c68759d34e262d9328f0", func := "plaiting/plaitinglaw12.SyncJoins", spec := "syncJoins", unfollowed := true, recurses := true, apart := false, narrowed := true }
def SyncJoinsUptoSaid : Prop := syncJoinsUptoRow.holds Try.pinned (OpenSpec.upto syncJoinsSpec)

/-- 'plaitinglaw12.SyncKnown', WHERE WHAT IT READS IS OF BULK AT MOST 1048576: true; the input reads as it did. -/
def syncKnownUptoRow : OpenClaim := { program := "ytegbklmmkamjgaa", sum := "b03bfaf3fc7ed047e520d252856f7006f63ec6c9bbe1c68759d34e262d9328f0", func := "plaiting/plaitinglaw12.SyncKnown", spec := "syncKnown", unfollowed := true, recurses := true, apart := false, narrowed := true }
def SyncKnownUptoSaid : Prop := syncKnownUptoRow.holds Try.pinned (OpenSpec.upto syncKnownSpec)

/-- 'plaitinglaw12.SyncSkews', WHERE WHAT IT READS IS OF BULK AT MOST 1048576: true; the input reads as it did. -/
def syncSkewsUptoRow : OpenClaim := { program := "ytegbklmmkamjgaa", sum := "b03bfaf3fc7ed047e520d252856f7006f63ec6c9bbe1c68759d34e262d9328f0", func := "plaiting/plaitinglaw12.SyncSkews", spec := "syncSkews", unfollowed := true, recurses := true, apart := false, narrowed := true }
def SyncSkewsUptoSaid : Prop := syncSkewsUptoRow.holds Try.pinned (OpenSpec.upto syncSkewsSpec)

/-- 'plaitinglaw12.SyncFirst', WHERE WHAT IT READS IS OF BULK AT MOST 1048576: true; the input reads as it did. -/
def syncFirstUptoRow : OpenClaim := { program := "ytegbklmmkamjgaa", sum := "b03bfaf3fc7ed047e520d252856f7006f63ec6c9bbe1c68759d34e262d9328f0", func := "plaiting/plaitinglaw12.SyncFirst", spec := "syncFirst", unfollowed := true, recurses := true, apart := false, narrowed := true }
def SyncFirstUptoSaid : Prop := syncFirstUptoRow.holds Try.pinned (OpenSpec.upto syncFirstSpec)

end Rows
end Go.Proofs.Ytegbklmmkamjgaa
