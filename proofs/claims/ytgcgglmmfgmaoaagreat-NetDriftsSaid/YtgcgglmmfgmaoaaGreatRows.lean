/-
  No cell of these rows narrows 'for every input' (looked for: loops, veiled, ifaces, maps, wideKeys, modest, calm, conditions, laid).
  DERIVED. THE GIVEN ROWS OF THIS SEAT. 10 by the template 'for every input the law returns true; each argument reads behind the call as it read before'; 0 by the template 'total and deterministic' (their statements: YtgcgglmmfgmaoaaGreatTotals.lean).
  GIVEN WITH THE SEED: the statements are not yours to turn. If you find one false, say at which input.
  Laid BY PROGRAM, IN A SANDBOX (cutbox-rows.mjs): the forced cells as the released guide's own fill.sh prints them over the translation 114fa665985ab165… (all of the seat's roots in one cut). By AI agents, Wed Nov 11 2026. No macro, syntax, notation, axiom, sorry.
-/
import Derived.Test.YtgcgglmmfgmaoaaGreatChecked
import GoSem.Claim
import GoSem.ClaimJoined
import GoSem.ClaimMapViews
import Derived.JoinedTies
import Derived.KernelRfl
namespace Go.Proofs.YtgcgglmmfgmaoaaGreat
/- THE CELL 'sum', in the pinned program and in every row, IS THE sha256 OF THE DUMP (.gsa) THAT YtgcgglmmfgmaoaaGreatProg.lean LOADS. Nothing in Lean hashes anything: it is a label: what it is worth is what the hold of that sum in a sandbox is worth. -/
noncomputable def Tryz.pinned : Pinned := { name := "ytgcgglmmfgmaoaagreat", sum := "114fa665985ab165de1af60953ec30ee4ffbd0acc9306f3f12c3e38b015c6428", checked := Tryz.checked }
namespace Rows
def none {H : Type} : Left H := { results := [], args := [] }

/-- 'plaitinglaw17.NetUp': WHATEVER THE INPUT: true; the input reads as it did. -/
def netUpSpec : ChangeSpec := { name := "netUp", fn := fun _ => fun
  | [d1, d2, d3] => { results := [.lit (.bool true)], args := [d1, d2, d3] }
  | _ => none }
def netUpRow : OpenClaim := { program := "ytgcgglmmfgmaoaagreat", sum := "114fa665985ab165de1af60953ec30ee4ffbd0acc9306f3f12c3e38b015c6428", func := "plaiting/plaitinglaw17.NetUp", spec := "netUp", inPlace := ["internal/abi.NoEscape"], unfollowed := true, recurses := true, plainKeys := false, apart := false }
def NetUpSaid : Prop := netUpRow.holds Tryz.pinned (OpenSpec.ofChange netUpSpec)

/-- ITS FALSE NEIGHBOUR: 'it returns false'. Refute it at one input. -/
def netUpWrong : ChangeSpec := { name := "netUp", fn := fun _ => fun
  | [d1, d2, d3] => { results := [.lit (.bool false)], args := [d1, d2, d3] }
  | _ => none }
def NetUpWrongFalsely : Prop := netUpRow.holds Tryz.pinned (OpenSpec.ofChange netUpWrong)

/-- 'plaitinglaw17.NetFirst': WHATEVER THE INPUT: true; the input reads as it did. -/
def netFirstSpec : ChangeSpec := { name := "netFirst", fn := fun _ => fun
  | [d1, d2, d3] => { results := [.lit (.bool true)], args := [d1, d2, d3] }
  | _ => none }
def netFirstRow : OpenClaim := { program := "ytgcgglmmfgmaoaagreat", sum := "114fa665985ab165de1af60953ec30ee4ffbd0acc9306f3f12c3e38b015c6428", func := "plaiting/plaitinglaw17.NetFirst", spec := "netFirst", inPlace := ["internal/abi.NoEscape"], unfollowed := true, recurses := true, plainKeys := false, apart := false }
def NetFirstSaid : Prop := netFirstRow.holds Tryz.pinned (OpenSpec.ofChange netFirstSpec)

/-- ITS FALSE NEIGHBOUR: 'it returns false'. Refute it at one input. -/
def netFirstWrong : ChangeSpec := { name := "netFirst", fn := fun _ => fun
  | [d1, d2, d3] => { results := [.lit (.bool false)], args := [d1, d2, d3] }
  | _ => none }
def NetFirstWrongFalsely : Prop := netFirstRow.holds Tryz.pinned (OpenSpec.ofChange netFirstWrong)

/-- 'plaitinglaw17.NetOrder': WHATEVER THE INPUT: true; the input reads as it did. -/
def netOrderSpec : ChangeSpec := { name := "netOrder", fn := fun _ => fun
  | [d1, d2, d3, d4] => { results := [.lit (.bool true)], args := [d1, d2, d3, d4] }
  | _ => none }
def netOrderRow : OpenClaim := { program := "ytgcgglmmfgmaoaagreat", sum := "114fa665985ab165de1af60953ec30ee4ffbd0acc9306f3f12c3e38b015c6428", func := "plaiting/plaitinglaw17.NetOrder", spec := "netOrder", inPlace := ["internal/abi.NoEscape"], unfollowed := true, recurses := true, plainKeys := false, apart := false }
def NetOrderSaid : Prop := netOrderRow.holds Tryz.pinned (OpenSpec.ofChange netOrderSpec)

/-- ITS FALSE NEIGHBOUR: 'it returns false'. Refute it at one input. -/
def netOrderWrong : ChangeSpec := { name := "netOrder", fn := fun _ => fun
  | [d1, d2, d3, d4] => { results := [.lit (.bool false)], args := [d1, d2, d3, d4] }
  | _ => none }
def NetOrderWrongFalsely : Prop := netOrderRow.holds Tryz.pinned (OpenSpec.ofChange netOrderWrong)

/-- 'plaitinglaw17.NetLogs': WHATEVER THE INPUT: true; the input reads as it did. -/
def netLogsSpec : ChangeSpec := { name := "netLogs", fn := fun _ => fun
  | [d1, d2, d3] => { results := [.lit (.bool true)], args := [d1, d2, d3] }
  | _ => none }
def netLogsRow : OpenClaim := { program := "ytgcgglmmfgmaoaagreat", sum := "114fa665985ab165de1af60953ec30ee4ffbd0acc9306f3f12c3e38b015c6428", func := "plaiting/plaitinglaw17.NetLogs", spec := "netLogs", inPlace := ["internal/abi.NoEscape"], unfollowed := true, recurses := true, plainKeys := false, apart := false }
def NetLogsSaid : Prop := netLogsRow.holds Tryz.pinned (OpenSpec.ofChange netLogsSpec)

/-- ITS FALSE NEIGHBOUR: 'it returns false'. Refute it at one input. -/
def netLogsWrong : ChangeSpec := { name := "netLogs", fn := fun _ => fun
  | [d1, d2, d3] => { results := [.lit (.bool false)], args := [d1, d2, d3] }
  | _ => none }
def NetLogsWrongFalsely : Prop := netLogsRow.holds Tryz.pinned (OpenSpec.ofChange netLogsWrong)

/-- 'plaitinglaw17.NetDrifts': WHATEVER THE INPUT: true; the input reads as it did. -/
def netDriftsSpec : ChangeSpec := { name := "netDrifts", fn := fun _ => fun
  | [d1, d2, d3, d4, d5] => { results := [.lit (.bool true)], args := [d1, d2, d3, d4, d5] }
  | _ => none }
def netDriftsRow : OpenClaim := { program := "ytgcgglmmfgmaoaagreat", sum := "114fa665985ab165de1af60953ec30ee4ffbd0acc9306f3f12c3e38b015c6428", func := "plaiting/plaitinglaw17.NetDrifts", spec := "netDrifts", inPlace := ["internal/abi.NoEscape"], unfollowed := true, recurses := true, plainKeys := false, apart := false }
def NetDriftsSaid : Prop := netDriftsRow.holds Tryz.pinned (OpenSpec.ofChange netDriftsSpec)

/-- ITS FALSE NEIGHBOUR: 'it returns false'. Refute it at one input. -/
def netDriftsWrong : ChangeSpec := { name := "netDrifts", fn := fun _ => fun
  | [d1, d2, d3, d4, d5] => { results := [.lit (.bool false)], args := [d1, d2, d3, d4, d5] }
  | _ => none }
def NetDriftsWrongFalsely : Prop := netDriftsRow.holds Tryz.pinned (OpenSpec.ofChange netDriftsWrong)

/-- 'plaitinglaw17.NetFew': WHATEVER THE INPUT: true; the input reads as it did. -/
def netFewSpec : ChangeSpec := { name := "netFew", fn := fun _ => fun
  | [d1, d2, d3] => { results := [.lit (.bool true)], args := [d1, d2, d3] }
  | _ => none }
def netFewRow : OpenClaim := { program := "ytgcgglmmfgmaoaagreat", sum := "114fa665985ab165de1af60953ec30ee4ffbd0acc9306f3f12c3e38b015c6428", func := "plaiting/plaitinglaw17.NetFew", spec := "netFew", inPlace := ["internal/abi.NoEscape"], unfollowed := true, recurses := true, plainKeys := false, apart := false }
def NetFewSaid : Prop := netFewRow.holds Tryz.pinned (OpenSpec.ofChange netFewSpec)

/-- ITS FALSE NEIGHBOUR: 'it returns false'. Refute it at one input. -/
def netFewWrong : ChangeSpec := { name := "netFew", fn := fun _ => fun
  | [d1, d2, d3] => { results := [.lit (.bool false)], args := [d1, d2, d3] }
  | _ => none }
def NetFewWrongFalsely : Prop := netFewRow.holds Tryz.pinned (OpenSpec.ofChange netFewWrong)

/-- 'plaitinglaw17.NetWraps': WHATEVER THE INPUT: true; the input reads as it did. -/
def netWrapsSpec : ChangeSpec := { name := "netWraps", fn := fun _ => fun
  | [d1, d2, d3, d4, d5] => { results := [.lit (.bool true)], args := [d1, d2, d3, d4, d5] }
  | _ => none }
def netWrapsRow : OpenClaim := { program := "ytgcgglmmfgmaoaagreat", sum := "114fa665985ab165de1af60953ec30ee4ffbd0acc9306f3f12c3e38b015c6428", func := "plaiting/plaitinglaw17.NetWraps", spec := "netWraps", inPlace := ["internal/abi.NoEscape"], unfollowed := true, recurses := true, plainKeys := false, apart := false }
def NetWrapsSaid : Prop := netWrapsRow.holds Tryz.pinned (OpenSpec.ofChange netWrapsSpec)

/-- ITS FALSE NEIGHBOUR: 'it returns false'. Refute it at one input. -/
def netWrapsWrong : ChangeSpec := { name := "netWraps", fn := fun _ => fun
  | [d1, d2, d3, d4, d5] => { results := [.lit (.bool false)], args := [d1, d2, d3, d4, d5] }
  | _ => none }
def NetWrapsWrongFalsely : Prop := netWrapsRow.holds Tryz.pinned (OpenSpec.ofChange netWrapsWrong)

/-- 'plaitinglaw17.NetCalls': WHATEVER THE INPUT: true; the input reads as it did. -/
def netCallsSpec : ChangeSpec := { name := "netCalls", fn := fun _ => fun
  | [d1, d2, d3] => { results := [.lit (.bool true)], args := [d1, d2, d3] }
  | _ => none }
def netCallsRow : OpenClaim := { program := "ytgcgglmmfgmaoaagreat", sum := "114fa665985ab165de1af60953ec30ee4ffbd0acc9306f3f12c3e38b015c6428", func := "plaiting/plaitinglaw17.NetCalls", spec := "netCalls", inPlace := ["internal/abi.NoEscape"], unfollowed := true, recurses := true, plainKeys := false, apart := false }
def NetCallsSaid : Prop := netCallsRow.holds Tryz.pinned (OpenSpec.ofChange netCallsSpec)

/-- ITS FALSE NEIGHBOUR: 'it returns false'. Refute it at one input. -/
def netCallsWrong : ChangeSpec := { name := "netCalls", fn := fun _ => fun
  | [d1, d2, d3] => { results := [.lit (.bool false)], args := [d1, d2, d3] }
  | _ => none }
def NetCallsWrongFalsely : Prop := netCallsRow.holds Tryz.pinned (OpenSpec.ofChange netCallsWrong)

/-- 'plaitinglaw17.NetClears': WHATEVER THE INPUT: true; the input reads as it did. -/
def netClearsSpec : ChangeSpec := { name := "netClears", fn := fun _ => fun
  | [d1, d2, d3, d4] => { results := [.lit (.bool true)], args := [d1, d2, d3, d4] }
  | _ => none }
def netClearsRow : OpenClaim := { program := "ytgcgglmmfgmaoaagreat", sum := "114fa665985ab165de1af60953ec30ee4ffbd0acc9306f3f12c3e38b015c6428", func := "plaiting/plaitinglaw17.NetClears", spec := "netClears", inPlace := ["internal/abi.NoEscape"], unfollowed := true, recurses := true, plainKeys := false, apart := false }
def NetClearsSaid : Prop := netClearsRow.holds Tryz.pinned (OpenSpec.ofChange netClearsSpec)

/-- ITS FALSE NEIGHBOUR: 'it returns false'. Refute it at one input. -/
def netClearsWrong : ChangeSpec := { name := "netClears", fn := fun _ => fun
  | [d1, d2, d3, d4] => { results := [.lit (.bool false)], args := [d1, d2, d3, d4] }
  | _ => none }
def NetClearsWrongFalsely : Prop := netClearsRow.holds Tryz.pinned (OpenSpec.ofChange netClearsWrong)

/-- 'plaitinglaw17.NetTwins': WHATEVER THE INPUT: true; the input reads as it did. -/
def netTwinsSpec : ChangeSpec := { name := "netTwins", fn := fun _ => fun
  | [d1, d2, d3, d4] => { results := [.lit (.bool true)], args := [d1, d2, d3, d4] }
  | _ => none }
def netTwinsRow : OpenClaim := { program := "ytgcgglmmfgmaoaagreat", sum := "114fa665985ab165de1af60953ec30ee4ffbd0acc9306f3f12c3e38b015c6428", func := "plaiting/plaitinglaw17.NetTwins", spec := "netTwins", inPlace := ["internal/abi.NoEscape"], unfollowed := true, recurses := true, plainKeys := false, apart := false }
def NetTwinsSaid : Prop := netTwinsRow.holds Tryz.pinned (OpenSpec.ofChange netTwinsSpec)

/-- ITS FALSE NEIGHBOUR: 'it returns false'. Refute it at one input. -/
def netTwinsWrong : ChangeSpec := { name := "netTwins", fn := fun _ => fun
  | [d1, d2, d3, d4] => { results := [.lit (.bool false)], args := [d1, d2, d3, d4] }
  | _ => none }
def NetTwinsWrongFalsely : Prop := netTwinsRow.holds Tryz.pinned (OpenSpec.ofChange netTwinsWrong)

/- THE SECOND FORM. 'bulk': how many values and letters a reading holds, each counted each time it is reached (what is shared counts as often as it is met; a slice's spare places count too). A statement '..UptoSaid' is the law's where the arguments, and the package variables that the reading takes, are together of bulk at most 1048576: NARROWER than '..Said'. Prove '..Said' where nothing that the law and all that it calls make is longer than what came in: it says more and counts as full. Else prove '..UptoSaid'. A law counts once. -/
mutual
def uptoBulk {H : Type} : DataW H → Nat
  | .lit (.string bytes) => bytes.length + 1
  | .lit _ => 1
  | .nil => 1
  | .ptr d => uptoBulk d + 1
  | .slice elems spare => uptoBulkAll elems + uptoBulkAll spare + 1
  | .agg parts => uptoBulkAll parts + 1
  | .iface _ d => uptoBulk d + 1
  | .map entries => uptoBulkEntries entries + 1
  | .held _ => 1
def uptoBulkAll {H : Type} : List (DataW H) → Nat
  | [] => 0
  | d :: r => uptoBulk d + uptoBulkAll r
def uptoBulkEntries {H : Type} : List (Lit × DataW H) → Nat
  | [] => 0
  | x :: r => uptoBulkEntry x + uptoBulkEntries r
def uptoBulkEntry {H : Type} : Lit × DataW H → Nat
  | (.string bytes, d) => bytes.length + uptoBulk d + 1
  | (_, d) => uptoBulk d + 1
 end
def uptoSmall : (H : Type) → List (DataW H) → Bool := fun _ ds => decide (uptoBulkAll ds ≤ 1048576)
def OpenSpec.upto (s : _root_.Go.ChangeSpec) : _root_.Go.OpenSpec := { _root_.Go.OpenSpec.ofChange s with cond := some uptoSmall }

/-- 'plaitinglaw17.NetUp', WHERE WHAT IT READS IS OF BULK AT MOST 1048576: true; the input reads as it did. -/
def netUpUptoRow : OpenClaim := { program := "ytgcgglmmfgmaoaagreat", sum := "114fa665985ab165de1af60953ec30ee4ffbd0acc9306f3f12c3e38b015c6428", func := "plaiting/plaitinglaw17.NetUp", spec := "netUp", inPlace := ["internal/abi.NoEscape"], unfollowed := true, recurses := true, plainKeys := false, apart := false, narrowed := true }
def NetUpUptoSaid : Prop := netUpUptoRow.holds Tryz.pinned (OpenSpec.upto netUpSpec)

/-- 'plaitinglaw17.NetFirst', WHERE WHAT IT READS IS OF BULK AT MOST 1048576: true; the input reads as it did. -/
def netFirstUptoRow : OpenClaim := { program := "ytgcgglmmfgmaoaagreat", sum := "114fa665985ab165de1af60953ec30ee4ffbd0acc9306f3f12c3e38b015c6428", func := "plaiting/plaitinglaw17.NetFirst", spec := "netFirst", inPlace := ["internal/abi.NoEscape"], unfollowed := true, recurses := true, plainKeys := false, apart := false, narrowed := true }
def NetFirstUptoSaid : Prop := netFirstUptoRow.holds Tryz.pinned (OpenSpec.upto netFirstSpec)

/-- 'plaitinglaw17.NetOrder', WHERE WHAT IT READS IS OF BULK AT MOST 1048576: true; the input reads as it did. -/
def netOrderUptoRow : OpenClaim := { program := "ytgcgglmmfgmaoaagreat", sum := "114fa665985ab165de1af60953ec30ee4ffbd0acc9306f3f12c3e38b015c6428", func := "plaiting/plaitinglaw17.NetOrder", spec := "netOrder", inPlace := ["internal/abi.NoEscape"], unfollowed := true, recurses := true, plainKeys := false, apart := false, narrowed := true }
def NetOrderUptoSaid : Prop := netOrderUptoRow.holds Tryz.pinned (OpenSpec.upto netOrderSpec)

/-- 'plaitinglaw17.NetLogs', WHERE WHAT IT READS IS OF BULK AT MOST 1048576: true; the input reads as it did. -/
def netLogsUptoRow : OpenClaim := { program := "ytgcgglmmfgmaoaagreat", sum := "114fa665985ab165de1af60953ec30ee4ffbd0acc9306f3f12c3e38b015c6428", func := "plaiting/plaitinglaw17.NetLogs", spec := "netLogs", inPlace := ["internal/abi.NoEscape"], unfollowed := true, recurses := true, plainKeys := false, apart := false, narrowed := true }
def NetLogsUptoSaid : Prop := netLogsUptoRow.holds Tryz.pinned (OpenSpec.upto netLogsSpec)

/-- 'plaitinglaw17.NetDrifts', WHERE WHAT IT READS IS OF BULK AT MOST 1048576: true; the input reads as it did. -/
def netDriftsUptoRow : OpenClaim := { program := "ytgcgglmmfgmaoaagreat", sum := "114fa665985ab165de1af60953ec30ee4ffbd0acc9306f3f12c3e38b015c6428", func := "plaiting/plaitinglaw17.NetDrifts", spec := "netDrifts", inPlace := ["internal/abi.NoEscape"], unfollowed := true, recurses := true, plainKeys := false, apart := false, narrowed := true }
def NetDriftsUptoSaid : Prop := netDriftsUptoRow.holds Tryz.pinned (OpenSpec.upto netDriftsSpec)

/-- 'plaitinglaw17.NetFew', WHERE WHAT IT READS IS OF BULK AT MOST 1048576: true; the input reads as it did. -/
def netFewUptoRow : OpenClaim := { program := "ytgcgglmmfgmaoaagreat", sum := "114fa665985ab165de1af60953ec30ee4ffbd0acc9306f3f12c3e38b015c6428", func := "plaiting/plaitinglaw17.NetFew", spec := "netFew", inPlace := ["internal/abi.NoEscape"], unfollowed := true, recurses := true, plainKeys := false, apart := false, narrowed := true }
def NetFewUptoSaid : Prop := netFewUptoRow.holds Tryz.pinned (OpenSpec.upto netFewSpec)

/-- 'plaitinglaw17.NetWraps', WHERE WHAT IT READS IS OF BULK AT MOST 1048576: true; the input reads as it did. -/
def netWrapsUptoRow : OpenClaim := { program := "ytgcgglmmfgmaoaagreat", sum := "114fa665985ab165de1af60953ec30ee4ffbd0acc9306f3f12c3e38b015c6428", func := "plaiting/plaitinglaw17.NetWraps", spec := "netWraps", inPlace := ["internal/abi.NoEscape"], unfollowed := true, recurses := true, plainKeys := false, apart := false, narrowed := true }
def NetWrapsUptoSaid : Prop := netWrapsUptoRow.holds Tryz.pinned (OpenSpec.upto netWrapsSpec)

/-- 'plaitinglaw17.NetCalls', WHERE WHAT IT READS IS OF BULK AT MOST 1048576: true; the input reads as it did. -/
def netCallsUptoRow : OpenClaim := { program := "ytgcgglmmfgmaoaagreat", sum := "114fa665985ab165de1af60953ec30ee4ffbd0acc9306f3f12c3e38b015c6428", func := "plaiting/plaitinglaw17.NetCalls", spec := "netCalls", inPlace := ["internal/abi.NoEscape"], unfollowed := true, recurses := true, plainKeys := false, apart := false, narrowed := true }
def NetCallsUptoSaid : Prop := netCallsUptoRow.holds Tryz.pinned (OpenSpec.upto netCallsSpec)

/-- 'plaitinglaw17.NetClears', WHERE WHAT IT READS IS OF BULK AT MOST 1048576: true; the input reads as it did. -/
def netClearsUptoRow : OpenClaim := { program := "ytgcgglmmfgmaoaagreat", sum := "114fa665985ab165de1af60953ec30ee4ffbd0acc9306f3f12c3e38b015c6428", func := "plaiting/plaitinglaw17.NetClears", spec := "netClears", inPlace := ["internal/abi.NoEscape"], unfollowed := true, recurses := true, plainKeys := false, apart := false, narrowed := true }
def NetClearsUptoSaid : Prop := netClearsUptoRow.holds Tryz.pinned (OpenSpec.upto netClearsSpec)

/-- 'plaitinglaw17.NetTwins', WHERE WHAT IT READS IS OF BULK AT MOST 1048576: true; the input reads as it did. -/
def netTwinsUptoRow : OpenClaim := { program := "ytgcgglmmfgmaoaagreat", sum := "114fa665985ab165de1af60953ec30ee4ffbd0acc9306f3f12c3e38b015c6428", func := "plaiting/plaitinglaw17.NetTwins", spec := "netTwins", inPlace := ["internal/abi.NoEscape"], unfollowed := true, recurses := true, plainKeys := false, apart := false, narrowed := true }
def NetTwinsUptoSaid : Prop := netTwinsUptoRow.holds Tryz.pinned (OpenSpec.upto netTwinsSpec)

end Rows
end Go.Proofs.YtgcgglmmfgmaoaaGreat
