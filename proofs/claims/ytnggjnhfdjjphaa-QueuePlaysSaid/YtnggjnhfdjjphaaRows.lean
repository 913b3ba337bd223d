/-
  No cell of these rows narrows 'for every input' (looked for: loops, veiled, ifaces, maps, wideKeys, modest, calm, conditions, laid).
  DERIVED. THE GIVEN ROWS OF THIS SEAT. 20 by the template 'for every input the law returns true; each argument reads behind the call as it read before'; 0 by the template 'total and deterministic' (their statements: YtnggjnhfdjjphaaTotals.lean).
  GIVEN WITH THE SEED: the statements are not yours to turn. If you find one false, say at which input.
  Laid BY PROGRAM, IN A SANDBOX (cutbox-rows.mjs): the forced cells as the released guide's own fill.sh prints them over the translation 0c0777e750904e3b… (all of the seat's roots in one cut). By AI agents, Wed Nov 11 2026. No macro, syntax, notation, axiom, sorry.
-/
import Derived.Test.YtnggjnhfdjjphaaChecked
import GoSem.Claim
import GoSem.ClaimJoined
import GoSem.ClaimMapViews
import Derived.JoinedTies
import Derived.KernelRfl
namespace Go.Proofs.Ytnggjnhfdjjphaa
/- THE CELL 'sum', in the pinned program and in every row, IS THE sha256 OF THE DUMP (.gsa) THAT YtnggjnhfdjjphaaProg.lean LOADS. Nothing in Lean hashes anything: it is a label: what it is worth is what the hold of that sum in a sandbox is worth. -/
noncomputable def Try.pinned : Pinned := { name := "ytnggjnhfdjjphaa", sum := "0c0777e750904e3b14b5c2991d7a38f0a0983ee7640b1c71bdacc52ae70a96d0", checked := Try.checked }
namespace Rows
def none {H : Type} : Left H := { results := [], args := [] }

/-- 'plaitinglaw14.QueueOrder': WHATEVER THE INPUT: true; the input reads as it did. -/
def queueOrderSpec : ChangeSpec := { name := "queueOrder", fn := fun _ => fun
  | [d1, d2] => { results := [.lit (.bool true)], args := [d1, d2] }
  | _ => none }
def queueOrderRow : OpenClaim := { program := "ytnggjnhfdjjphaa", sum := "0c0777e750904e3b14b5c2991d7a38f0a0983ee7640b1c71bdacc52ae70a96d0", func := "plaiting/plaitinglaw14.QueueOrder", spec := "queueOrder", apart := false }
def QueueOrderSaid : Prop := queueOrderRow.holds Try.pinned (OpenSpec.ofChange queueOrderSpec)

/-- ITS FALSE NEIGHBOUR: 'it returns false'. Refute it at one input. -/
def queueOrderWrong : ChangeSpec := { name := "queueOrder", fn := fun _ => fun
  | [d1, d2] => { results := [.lit (.bool false)], args := [d1, d2] }
  | _ => none }
def QueueOrderWrongFalsely : Prop := queueOrderRow.holds Try.pinned (OpenSpec.ofChange queueOrderWrong)

/-- 'plaitinglaw14.QueueRound': WHATEVER THE INPUT: true; the input reads as it did. -/
def queueRoundSpec : ChangeSpec := { name := "queueRound", fn := fun _ => fun
  | [d1, d2] => { results := [.lit (.bool true)], args := [d1, d2] }
  | _ => none }
def queueRoundRow : OpenClaim := { program := "ytnggjnhfdjjphaa", sum := "0c0777e750904e3b14b5c2991d7a38f0a0983ee7640b1c71bdacc52ae70a96d0", func := "plaiting/plaitinglaw14.QueueRound", spec := "queueRound", apart := false }
def QueueRoundSaid : Prop := queueRoundRow.holds Try.pinned (OpenSpec.ofChange queueRoundSpec)

/-- ITS FALSE NEIGHBOUR: 'it returns false'. Refute it at one input. -/
def queueRoundWrong : ChangeSpec := { name := "queueRound", fn := fun _ => fun
  | [d1, d2] => { results := [.lit (.bool false)], args := [d1, d2] }
  | _ => none }
def QueueRoundWrongFalsely : Prop := queueRoundRow.holds Try.pinned (OpenSpec.ofChange queueRoundWrong)

/-- 'plaitinglaw14.QueuePlays': WHATEVER THE INPUT: true; the input reads as it did. -/
def queuePlaysSpec : ChangeSpec := { name := "queuePlays", fn := fun _ => fun
  | [d1, d2] => { results := [.lit (.bool true)], args := [d1, d2] }
  | _ => none }
def queuePlaysRow : OpenClaim := { program := "ytnggjnhfdjjphaa", sum := "0c0777e750904e3b14b5c2991d7a38f0a0983ee7640b1c71bdacc52ae70a96d0", func := "plaiting/plaitinglaw14.QueuePlays", spec := "queuePlays", apart := false }
def QueuePlaysSaid : Prop := queuePlaysRow.holds Try.pinned (OpenSpec.ofChange queuePlaysSpec)

/-- ITS FALSE NEIGHBOUR: 'it returns false'. Refute it at one input. -/
def queuePlaysWrong : ChangeSpec := { name := "queuePlays", fn := fun _ => fun
  | [d1, d2] => { results := [.lit (.bool false)], args := [d1, d2] }
  | _ => none }
def QueuePlaysWrongFalsely : Prop := queuePlaysRow.holds Try.pinned (OpenSpec.ofChange queuePlaysWrong)

/-- 'plaitinglaw14.QueueApart': WHATEVER THE INPUT: true; the input reads as it did. -/
def queueApartSpec : ChangeSpec := { name := "queueApart", fn := fun _ => fun
  | [d1, d2] => { results := [.lit (.bool true)], args := [d1, d2] }
  | _ => none }
def queueApartRow : OpenClaim := { program := "ytnggjnhfdjjphaa", sum := "0c0777e750904e3b14b5c2991d7a38f0a0983ee7640b1c71bdacc52ae70a96d0", func := "plaiting/plaitinglaw14.QueueApart", spec := "queueApart", apart := false }
def QueueApartSaid : Prop := queueApartRow.holds Try.pinned (OpenSpec.ofChange queueApartSpec)

/-- ITS FALSE NEIGHBOUR: 'it returns false'. Refute it at one input. -/
def queueApartWrong : ChangeSpec := { name := "queueApart", fn := fun _ => fun
  | [d1, d2] => { results := [.lit (.bool false)], args := [d1, d2] }
  | _ => none }
def QueueApartWrongFalsely : Prop := queueApartRow.holds Try.pinned (OpenSpec.ofChange queueApartWrong)

/-- 'plaitinglaw2.CrcKnown': WHATEVER THE INPUT: true; the input reads as it did. -/
def crcKnownSpec : ChangeSpec := { name := "crcKnown", fn := fun _ => fun
  | [d] => { results := [.lit (.bool true)], args := [d] }
  | _ => none }
def crcKnownRow : OpenClaim := { program := "ytnggjnhfdjjphaa", sum := "0c0777e750904e3b14b5c2991d7a38f0a0983ee7640b1c71bdacc52ae70a96d0", func := "plaiting/plaitinglaw2.CrcKnown", spec := "crcKnown", apart := false }
def CrcKnownSaid : Prop := crcKnownRow.holds Try.pinned (OpenSpec.ofChange crcKnownSpec)

/-- ITS FALSE NEIGHBOUR: 'it returns false'. Refute it at one input. -/
def crcKnownWrong : ChangeSpec := { name := "crcKnown", fn := fun _ => fun
  | [d] => { results := [.lit (.bool false)], args := [d] }
  | _ => none }
def CrcKnownWrongFalsely : Prop := crcKnownRow.holds Try.pinned (OpenSpec.ofChange crcKnownWrong)

/-- 'plaitinglaw2.CrcThree': WHATEVER THE INPUT: true; the input reads as it did. -/
def crcThreeSpec : ChangeSpec := { name := "crcThree", fn := fun _ => fun
  | [d1, d2, d3, d4] => { results := [.lit (.bool true)], args := [d1, d2, d3, d4] }
  | _ => none }
def crcThreeRow : OpenClaim := { program := "ytnggjnhfdjjphaa", sum := "0c0777e750904e3b14b5c2991d7a38f0a0983ee7640b1c71bdacc52ae70a96d0", func := "plaiting/plaitinglaw2.CrcThree", spec := "crcThree", apart := false }
def CrcThreeSaid : Prop := crcThreeRow.holds Try.pinned (OpenSpec.ofChange crcThreeSpec)

/-- ITS FALSE NEIGHBOUR: 'it returns false'. Refute it at one input. -/
def crcThreeWrong : ChangeSpec := { name := "crcThree", fn := fun _ => fun
  | [d1, d2, d3, d4] => { results := [.lit (.bool false)], args := [d1, d2, d3, d4] }
  | _ => none }
def CrcThreeWrongFalsely : Prop := crcThreeRow.holds Try.pinned (OpenSpec.ofChange crcThreeWrong)

/-- 'plaitinglaw1.SymClean': WHATEVER THE INPUT: true; the input reads as it did. -/
def symCleanSpec : ChangeSpec := { name := "symClean", fn := fun _ => fun
  | [d1, d2] => { results := [.lit (.bool true)], args := [d1, d2] }
  | _ => none }
def symCleanRow : OpenClaim := { program := "ytnggjnhfdjjphaa", sum := "0c0777e750904e3b14b5c2991d7a38f0a0983ee7640b1c71bdacc52ae70a96d0", func := "plaiting/plaitinglaw1.SymClean", spec := "symClean", apart := false }
def SymCleanSaid : Prop := symCleanRow.holds Try.pinned (OpenSpec.ofChange symCleanSpec)

/-- ITS FALSE NEIGHBOUR: 'it returns false'. Refute it at one input. -/
def symCleanWrong : ChangeSpec := { name := "symClean", fn := fun _ => fun
  | [d1, d2] => { results := [.lit (.bool false)], args := [d1, d2] }
  | _ => none }
def SymCleanWrongFalsely : Prop := symCleanRow.holds Try.pinned (OpenSpec.ofChange symCleanWrong)

/-- 'plaitinglaw1.SymBits': WHATEVER THE INPUT: true; the input reads as it did. -/
def symBitsSpec : ChangeSpec := { name := "symBits", fn := fun _ => fun
  | [d1, d2, d3, d4] => { results := [.lit (.bool true)], args := [d1, d2, d3, d4] }
  | _ => none }
def symBitsRow : OpenClaim := { program := "ytnggjnhfdjjphaa", sum := "0c0777e750904e3b14b5c2991d7a38f0a0983ee7640b1c71bdacc52ae70a96d0", func := "plaiting/plaitinglaw1.SymBits", spec := "symBits", apart := false }
def SymBitsSaid : Prop := symBitsRow.holds Try.pinned (OpenSpec.ofChange symBitsSpec)

/-- ITS FALSE NEIGHBOUR: 'it returns false'. Refute it at one input. -/
def symBitsWrong : ChangeSpec := { name := "symBits", fn := fun _ => fun
  | [d1, d2, d3, d4] => { results := [.lit (.bool false)], args := [d1, d2, d3, d4] }
  | _ => none }
def SymBitsWrongFalsely : Prop := symBitsRow.holds Try.pinned (OpenSpec.ofChange symBitsWrong)

/-- 'plaitinglaw1.SymNums': WHATEVER THE INPUT: true; the input reads as it did. -/
def symNumsSpec : ChangeSpec := { name := "symNums", fn := fun _ => fun
  | [d1, d2, d3] => { results := [.lit (.bool true)], args := [d1, d2, d3] }
  | _ => none }
def symNumsRow : OpenClaim := { program := "ytnggjnhfdjjphaa", sum := "0c0777e750904e3b14b5c2991d7a38f0a0983ee7640b1c71bdacc52ae70a96d0", func := "plaiting/plaitinglaw1.SymNums", spec := "symNums", apart := false }
def SymNumsSaid : Prop := symNumsRow.holds Try.pinned (OpenSpec.ofChange symNumsSpec)

/-- ITS FALSE NEIGHBOUR: 'it returns false'. Refute it at one input. -/
def symNumsWrong : ChangeSpec := { name := "symNums", fn := fun _ => fun
  | [d1, d2, d3] => { results := [.lit (.bool false)], args := [d1, d2, d3] }
  | _ => none }
def SymNumsWrongFalsely : Prop := symNumsRow.holds Try.pinned (OpenSpec.ofChange symNumsWrong)

/-- 'plaitinglaw1.SymCommon': WHATEVER THE INPUT: true; the input reads as it did. -/
def symCommonSpec : ChangeSpec := { name := "symCommon", fn := fun _ => fun
  | [d1, d2, d3] => { results := [.lit (.bool true)], args := [d1, d2, d3] }
  | _ => none }
def symCommonRow : OpenClaim := { program := "ytnggjnhfdjjphaa", sum := "0c0777e750904e3b14b5c2991d7a38f0a0983ee7640b1c71bdacc52ae70a96d0", func := "plaiting/plaitinglaw1.SymCommon", spec := "symCommon", apart := false }
def SymCommonSaid : Prop := symCommonRow.holds Try.pinned (OpenSpec.ofChange symCommonSpec)

/-- ITS FALSE NEIGHBOUR: 'it returns false'. Refute it at one input. -/
def symCommonWrong : ChangeSpec := { name := "symCommon", fn := fun _ => fun
  | [d1, d2, d3] => { results := [.lit (.bool false)], args := [d1, d2, d3] }
  | _ => none }
def SymCommonWrongFalsely : Prop := symCommonRow.holds Try.pinned (OpenSpec.ofChange symCommonWrong)

/-- 'plaitinglaw1.SymTurn': WHATEVER THE INPUT: true; the input reads as it did. -/
def symTurnSpec : ChangeSpec := { name := "symTurn", fn := fun _ => fun
  | [d1, d2] => { results := [.lit (.bool true)], args := [d1, d2] }
  | _ => none }
def symTurnRow : OpenClaim := { program := "ytnggjnhfdjjphaa", sum := "0c0777e750904e3b14b5c2991d7a38f0a0983ee7640b1c71bdacc52ae70a96d0", func := "plaiting/plaitinglaw1.SymTurn", spec := "symTurn", apart := false }
def SymTurnSaid : Prop := symTurnRow.holds Try.pinned (OpenSpec.ofChange symTurnSpec)

/-- ITS FALSE NEIGHBOUR: 'it returns false'. Refute it at one input. -/
def symTurnWrong : ChangeSpec := { name := "symTurn", fn := fun _ => fun
  | [d1, d2] => { results := [.lit (.bool false)], args := [d1, d2] }
  | _ => none }
def SymTurnWrongFalsely : Prop := symTurnRow.holds Try.pinned (OpenSpec.ofChange symTurnWrong)

/-- 'plaitinglaw1.SymJoin': WHATEVER THE INPUT: true; the input reads as it did. -/
def symJoinSpec : ChangeSpec := { name := "symJoin", fn := fun _ => fun
  | [d1, d2, d3, d4] => { results := [.lit (.bool true)], args := [d1, d2, d3, d4] }
  | _ => none }
def symJoinRow : OpenClaim := { program := "ytnggjnhfdjjphaa", sum := "0c0777e750904e3b14b5c2991d7a38f0a0983ee7640b1c71bdacc52ae70a96d0", func := "plaiting/plaitinglaw1.SymJoin", spec := "symJoin", apart := false }
def SymJoinSaid : Prop := symJoinRow.holds Try.pinned (OpenSpec.ofChange symJoinSpec)

/-- ITS FALSE NEIGHBOUR: 'it returns false'. Refute it at one input. -/
def symJoinWrong : ChangeSpec := { name := "symJoin", fn := fun _ => fun
  | [d1, d2, d3, d4] => { results := [.lit (.bool false)], args := [d1, d2, d3, d4] }
  | _ => none }
def SymJoinWrongFalsely : Prop := symJoinRow.holds Try.pinned (OpenSpec.ofChange symJoinWrong)

/-- 'plaitinglaw2.CrcSums': WHATEVER THE INPUT: true; the input reads as it did. -/
def crcSumsSpec : ChangeSpec := { name := "crcSums", fn := fun _ => fun
  | [d] => { results := [.lit (.bool true)], args := [d] }
  | _ => none }
def crcSumsRow : OpenClaim := { program := "ytnggjnhfdjjphaa", sum := "0c0777e750904e3b14b5c2991d7a38f0a0983ee7640b1c71bdacc52ae70a96d0", func := "plaiting/plaitinglaw2.CrcSums", spec := "crcSums", apart := false }
def CrcSumsSaid : Prop := crcSumsRow.holds Try.pinned (OpenSpec.ofChange crcSumsSpec)

/-- ITS FALSE NEIGHBOUR: 'it returns false'. Refute it at one input. -/
def crcSumsWrong : ChangeSpec := { name := "crcSums", fn := fun _ => fun
  | [d] => { results := [.lit (.bool false)], args := [d] }
  | _ => none }
def CrcSumsWrongFalsely : Prop := crcSumsRow.holds Try.pinned (OpenSpec.ofChange crcSumsWrong)

/-- 'plaitinglaw2.CrcOpens': WHATEVER THE INPUT: true; the input reads as it did. -/
def crcOpensSpec : ChangeSpec := { name := "crcOpens", fn := fun _ => fun
  | [d1, d2, d3, d4, d5, d6] => { results := [.lit (.bool true)], args := [d1, d2, d3, d4, d5, d6] }
  | _ => none }
def crcOpensRow : OpenClaim := { program := "ytnggjnhfdjjphaa", sum := "0c0777e750904e3b14b5c2991d7a38f0a0983ee7640b1c71bdacc52ae70a96d0", func := "plaiting/plaitinglaw2.CrcOpens", spec := "crcOpens", apart := false }
def CrcOpensSaid : Prop := crcOpensRow.holds Try.pinned (OpenSpec.ofChange crcOpensSpec)

/-- ITS FALSE NEIGHBOUR: 'it returns false'. Refute it at one input. -/
def crcOpensWrong : ChangeSpec := { name := "crcOpens", fn := fun _ => fun
  | [d1, d2, d3, d4, d5, d6] => { results := [.lit (.bool false)], args := [d1, d2, d3, d4, d5, d6] }
  | _ => none }
def CrcOpensWrongFalsely : Prop := crcOpensRow.holds Try.pinned (OpenSpec.ofChange crcOpensWrong)

/-- 'plaitinglaw2.CrcOne': WHATEVER THE INPUT: true; the input reads as it did. -/
def crcOneSpec : ChangeSpec := { name := "crcOne", fn := fun _ => fun
  | [d1, d2, d3] => { results := [.lit (.bool true)], args := [d1, d2, d3] }
  | _ => none }
def crcOneRow : OpenClaim := { program := "ytnggjnhfdjjphaa", sum := "0c0777e750904e3b14b5c2991d7a38f0a0983ee7640b1c71bdacc52ae70a96d0", func := "plaiting/plaitinglaw2.CrcOne", spec := "crcOne", apart := false }
def CrcOneSaid : Prop := crcOneRow.holds Try.pinned (OpenSpec.ofChange crcOneSpec)

/-- ITS FALSE NEIGHBOUR: 'it returns false'. Refute it at one input. -/
def crcOneWrong : ChangeSpec := { name := "crcOne", fn := fun _ => fun
  | [d1, d2, d3] => { results := [.lit (.bool false)], args := [d1, d2, d3] }
  | _ => none }
def CrcOneWrongFalsely : Prop := crcOneRow.holds Try.pinned (OpenSpec.ofChange crcOneWrong)

/-- 'plaitinglaw2.CrcTwo': WHATEVER THE INPUT: true; the input reads as it did. -/
def crcTwoSpec : ChangeSpec := { name := "crcTwo", fn := fun _ => fun
  | [d1, d2, d3] => { results := [.lit (.bool true)], args := [d1, d2, d3] }
  | _ => none }
def crcTwoRow : OpenClaim := { program := "ytnggjnhfdjjphaa", sum := "0c0777e750904e3b14b5c2991d7a38f0a0983ee7640b1c71bdacc52ae70a96d0", func := "plaiting/plaitinglaw2.CrcTwo", spec := "crcTwo", apart := false }
def CrcTwoSaid : Prop := crcTwoRow.holds Try.pinned (OpenSpec.ofChange crcTwoSpec)

/-- ITS FALSE NEIGHBOUR: 'it returns false'. Refute it at one input. -/
def crcTwoWrong : ChangeSpec := { name := "crcTwo", fn := fun _ => fun
  | [d1, d2, d3] => { results := [.lit (.bool false)], args := [d1, d2, d3] }
  | _ => none }
def CrcTwoWrongFalsely : Prop := crcTwoRow.holds Try.pinned (OpenSpec.ofChange crcTwoWrong)

/-- 'plaitinglaw2.CrcBurst': WHATEVER THE INPUT: true; the input reads as it did. -/
def crcBurstSpec : ChangeSpec := { name := "crcBurst", fn := fun _ => fun
  | [d1, d2, d3] => { results := [.lit (.bool true)], args := [d1, d2, d3] }
  | _ => none }
def crcBurstRow : OpenClaim := { program := "ytnggjnhfdjjphaa", sum := "0c0777e750904e3b14b5c2991d7a38f0a0983ee7640b1c71bdacc52ae70a96d0", func := "plaiting/plaitinglaw2.CrcBurst", spec := "crcBurst", apart := false }
def CrcBurstSaid : Prop := crcBurstRow.holds Try.pinned (OpenSpec.ofChange crcBurstSpec)

/-- ITS FALSE NEIGHBOUR: 'it returns false'. Refute it at one input. -/
def crcBurstWrong : ChangeSpec := { name := "crcBurst", fn := fun _ => fun
  | [d1, d2, d3] => { results := [.lit (.bool false)], args := [d1, d2, d3] }
  | _ => none }
def CrcBurstWrongFalsely : Prop := crcBurstRow.holds Try.pinned (OpenSpec.ofChange crcBurstWrong)

/-- 'plaitinglaw2.CrcOdd': WHATEVER THE INPUT: true; the input reads as it did. -/
def crcOddSpec : ChangeSpec := { name := "crcOdd", fn := fun _ => fun
  | [d1, d2, d3, d4] => { results := [.lit (.bool true)], args := [d1, d2, d3, d4] }
  | _ => none }
def crcOddRow : OpenClaim := { program := "ytnggjnhfdjjphaa", sum := "0c0777e750904e3b14b5c2991d7a38f0a0983ee7640b1c71bdacc52ae70a96d0", func := "plaiting/plaitinglaw2.CrcOdd", spec := "crcOdd", apart := false }
def CrcOddSaid : Prop := crcOddRow.holds Try.pinned (OpenSpec.ofChange crcOddSpec)

/-- ITS FALSE NEIGHBOUR: 'it returns false'. Refute it at one input. -/
def crcOddWrong : ChangeSpec := { name := "crcOdd", fn := fun _ => fun
  | [d1, d2, d3, d4] => { results := [.lit (.bool false)], args := [d1, d2, d3, d4] }
  | _ => none }
def CrcOddWrongFalsely : Prop := crcOddRow.holds Try.pinned (OpenSpec.ofChange crcOddWrong)

/-- 'plaitinglaw1.SymAll': WHATEVER THE INPUT: true; the input reads as it did. -/
def symAllSpec : ChangeSpec := { name := "symAll", fn := fun _ => fun
  | [d1, d2, d3, d4] => { results := [.lit (.bool true)], args := [d1, d2, d3, d4] }
  | _ => none }
def symAllRow : OpenClaim := { program := "ytnggjnhfdjjphaa", sum := "0c0777e750904e3b14b5c2991d7a38f0a0983ee7640b1c71bdacc52ae70a96d0", func := "plaiting/plaitinglaw1.SymAll", spec := "symAll", apart := false }
def SymAllSaid : Prop := symAllRow.holds Try.pinned (OpenSpec.ofChange symAllSpec)

/-- ITS FALSE NEIGHBOUR: 'it returns false'. Refute it at one input. -/
def symAllWrong : ChangeSpec := { name := "symAll", fn := fun _ => fun
  | [d1, d2, d3, d4] => { results := [.lit (.bool false)], args := [d1, d2, d3, d4] }
  | _ => none }
def SymAllWrongFalsely : Prop := symAllRow.holds Try.pinned (OpenSpec.ofChange symAllWrong)

/-- 'plaitinglaw1.SymKnown': WHATEVER THE INPUT: true; the input reads as it did. -/
def symKnownSpec : ChangeSpec := { name := "symKnown", fn := fun _ => fun
  | [d] => { results := [.lit (.bool true)], args := [d] }
  | _ => none }
def symKnownRow : OpenClaim := { program := "ytnggjnhfdjjphaa", sum := "0c0777e750904e3b14b5c2991d7a38f0a0983ee7640b1c71bdacc52ae70a96d0", func := "plaiting/plaitinglaw1.SymKnown", spec := "symKnown", apart := false }
def SymKnownSaid : Prop := symKnownRow.holds Try.pinned (OpenSpec.ofChange symKnownSpec)

/-- ITS FALSE NEIGHBOUR: 'it returns false'. Refute it at one input. -/
def symKnownWrong : ChangeSpec := { name := "symKnown", fn := fun _ => fun
  | [d] => { results := [.lit (.bool false)], args := [d] }
  | _ => none }
def SymKnownWrongFalsely : Prop := symKnownRow.holds Try.pinned (OpenSpec.ofChange symKnownWrong)

/- THE SECOND FORM. 'bulk': how many values and letters a reading holds, each counted each time it is reached (what is shared counts as often as it is met; a slice's spare places count too). A statement '..UptoSaid' is the law's where the arguments, and the package variables that the reading takes, are together of bulk at most 1048576: NARROWER than '..Said'. Prove '..Said' where nothing that the law and all that it calls make is longer than what came in: it says more and counts as full. Else prove '..UptoSaid'. A law counts once. -/
mutual
def uptoBulk {H : Type} : DataW H → Nat
  | .lit (.string bytes) => bytes.length + 1
  | .lit _ => 1
  | .nil => 1
  | .ptr d => uptoBulk d + 1
  | .slice elems spare => uptoBulkAll elems + uptoBulkAll spare + 1
  | .agg parts => uptoBulkAll parts + 1
  | .iface _ d => uptoBulk d + 1
  | .map entries => uptoBulkEntries entries + 1
  | .held _ => 1
def uptoBulkAll {H : Type} : List (DataW H) → Nat
  | [] => 0
  | d :: r => uptoBulk d + uptoBulkAll r
def uptoBulkEntries {H : Type} : List (Lit × DataW H) → Nat
  | [] => 0
  | x :: r => uptoBulkEntry x + uptoBulkEntries r
def uptoBulkEntry {H : Type} : Lit × DataW H → Nat
  | (.string bytes, d) => bytes.length + uptoBulk d + 1
  | (_, d) => uptoBulk d + 1
 end
def uptoSmall : (H : Type) → List (DataW H) → Bool := fun _ ds => decide (uptoBulkAll ds ≤ 1048576)
def OpenSpec.upto (s : _root_.Go.ChangeSpec) : _root_.Go.OpenSpec := { _root_.Go.OpenSpec.ofChange s with cond := some uptoSmall }

/-- 'plaitinglaw14.QueueOrder', WHERE WHAT IT READS IS OF BULK AT MOST 1048576: true; the input reads as it did. -/
def queueOrderUptoRow : OpenClaim := { program := "ytnggjnhfdjjphaa", sum := "0c0777e750904e3b14b5c2991d7a38f0a0983ee7640b1c71bdacc52ae70a96d0", func := "plaiting/plaitinglaw14.QueueOrder", spec := "queueOrder", apart := false, narrowed := true }
def QueueOrderUptoSaid : Prop := queueOrderUptoRow.holds Try.pinned (OpenSpec.upto queueOrderSpec)

/-- 'plaitinglaw14.QueueRound', WHERE WHAT IT READS IS OF BULK AT MOST 1048576: true; the input reads as it did. -/
def queueRoundUptoRow : OpenClaim := { program := "ytnggjnhfdjjphaa", sum := "0c0777e750904e3b14b5c2991d7a38f0a0983ee7640b1c71bdacc52ae70a96d0", func := "plaiting/plaitinglaw14.QueueRound", spec := "queueRound", apart := false, narrowed := true }
def QueueRoundUptoSaid : Prop := queueRoundUptoRow.holds Try.pinned (OpenSpec.upto queueRoundSpec)

/-- 'plaitinglaw14.QueuePlays', WHERE WHAT IT READS IS OF BULK AT MOST 1048576: true; the input reads as it did. -/
def queuePlaysUptoRow : OpenClaim := { program := "ytnggjnhfdjjphaa", sum := "0c0777e750904e3b14b5c2991d7a38f0a0983ee7640b1c71bdacc52ae70a96d0", func := "plaiting/plaitinglaw14.QueuePlays", spec := "queuePlays", apart := false, narrowed := true }
def QueuePlaysUptoSaid : Prop := queuePlaysUptoRow.holds Try.pinned (OpenSpec.upto queuePlaysSpec)

/-- 'plaitinglaw14.QueueApart', WHERE WHAT IT READS IS OF BULK AT MOST 1048576: true; the input reads as it did. -/
def queueApartUptoRow : OpenClaim := { program := "ytnggjnhfdjjphaa", sum := "0c0777e750904e3b14b5c2991d7a38f0a0983ee7640b1c71bdacc52ae70a96d0", func := "plaiting/plaitinglaw14.QueueApart", spec := "queueApart", apart := false, narrowed := true }
def QueueApartUptoSaid : Prop := queueApartUptoRow.holds Try.pinned (OpenSpec.upto queueApartSpec)

/-- 'plaitinglaw2.CrcKnown', WHERE WHAT IT READS IS OF BULK AT MOST 1048576: true; the input reads as it did. -/
def crcKnownUptoRow : OpenClaim := { program := "ytnggjnhfdjjphaa", sum := "0c0777e750904e3b14b5c2991d7a38f0a0983ee7640b1c71bdacc52ae70a96d0", func := "plaiting/plaitinglaw2.CrcKnown", spec := "crcKnown", apart := false, narrowed := true }
def CrcKnownUptoSaid : Prop := crcKnownUptoRow.holds Try.pinned (OpenSpec.upto crcKnownSpec)

/-- 'plaitinglaw2.CrcThree', WHERE WHAT IT READS IS OF BULK AT MOST 1048576: true; the input reads as it did. -/
def crcThreeUptoRow : OpenClaim := { program := "ytnggjnhfdjjphaa", sum := "0c0777e750904e3b14b5c2991d7a38f0a0983ee7640b1c71bdacc52ae70a96d0", func := "plaiting/plaitinglaw2.CrcThree", spec := "crcThree", apart := false, narrowed := true }
def CrcThreeUptoSaid : Prop := crcThreeUptoRow.holds Try.pinned (OpenSpec.upto crcThreeSpec)

/-- 'plaitinglaw1.SymClean', WHERE WHAT IT READS IS OF BULK AT MOST 1048576: true; the input reads as it did. -/
def symCleanUptoRow : OpenClaim := { program := "ytnggjnhfdjjphaa", sum := "0c0777e750904e3b14b5c2991d7a38f0a0983ee7640b1c71bdacc52ae70a96d0", func := "plaiting/plaitinglaw1.SymClean", spec := "symClean", apart := false, narrowed := true }
def SymCleanUptoSaid : Prop := symCleanUptoRow.holds Try.pinned (OpenSpec.upto symCleanSpec)

/-- 'plaitinglaw1.SymBits', WHERE WHAT IT READS IS OF BULK AT MOST 1048576: true; the input reads as it did. -/
def symBitsUptoRow : OpenClaim := { program := "ytnggjnhfdjjphaa", sum := "0c0777e750904e3b14b5c2991d7a38f0a0983ee7640b1c71bdacc52ae70a96d0", func := "plaiting/plaitinglaw1.SymBits", spec := "symBits", apart := false, narrowed := true }
def SymBitsUptoSaid : Prop := symBitsUptoRow.holds Try.pinned (OpenSpec.upto symBitsSpec)

/-- 'plaitinglaw1.SymNums', WHERE WHAT IT READS IS OF BULK AT MOST 1048576: true; the input reads as it did. -/
def symNumsUptoRow : OpenClaim := { program := "ytnggjnhfdjjphaa", sum := "0c0777e750904e3b14b5c2991d7a38f0a0983ee7640b1c71bdacc52ae70a96d0", func := "plaiting/plaitinglaw1.SymNums", spec := "symNums", apart := false, narrowed := true }
def SymNumsUptoSaid : Prop := symNumsUptoRow.holds Try.pinned (OpenSpec.upto symNumsSpec)

/-- 'plaitinglaw1.SymCommon', WHERE WHAT IT READS IS OF BULK AT MOST 1048576: true; the input reads as it did. -/
def symCommonUptoRow : OpenClaim := { program := "ytnggjnhfdjjphaa", sum := "0c0777e750904e3b14b5c2991d7a38f0a0983ee7640b1c71bdacc52ae70a96d0", func := "plaiting/plaitinglaw1.SymCommon", spec := "symCommon", apart := false, narrowed := true }
def SymCommonUptoSaid : Prop := symCommonUptoRow.holds Try.pinned (OpenSpec.upto symCommonSpec)

/-- 'plaitinglaw1.SymTurn', WHERE WHAT IT READS IS OF BULK AT MOST 1048576: true; the input reads as it did. -/
def symTurnUptoRow : OpenClaim := { program := "ytnggjnhfdjjphaa", sum := "0c0777e750904e3b14b5c2991d7a38f0a0983ee7640b1c71bdacc52ae70a96d0", func := "plaiting/plaitinglaw1.SymTurn", spec := "symTurn", apart := false, narrowed := true }
def SymTurnUptoSaid : Prop := symTurnUptoRow.holds Try.pinned (OpenSpec.upto symTurnSpec)

/-- 'plaitinglaw1.SymJoin', WHERE WHAT IT READS IS OF BULK AT MOST 1048576: true; the input reads as it did. -/
def symJoinUptoRow : OpenClaim := { program := "ytnggjnhfdjjphaa", sum := "0c0777e750904e3b14b5c2991d7a38f0a0983ee7640b1c71bdacc52ae70a96d0", func := "plaiting/plaitinglaw1.SymJoin", spec := "symJoin", apart := false, narrowed := true }
def SymJoinUptoSaid : Prop := symJoinUptoRow.holds Try.pinned (OpenSpec.upto symJoinSpec)

/-- 'plaitinglaw2.CrcSums', WHERE WHAT IT READS IS OF BULK AT MOST 1048576: true; the input reads as it did. -/
def crcSumsUptoRow : OpenClaim := { program := "ytnggjnhfdjjphaa", sum := "0c0777e750904e3b14b5c2991d7a38f0a0983ee7640b1c71bdacc52ae70a96d0", func := "plaiting/plaitinglaw2.CrcSums", spec := "crcSums", apart := false, narrowed := true }
def CrcSumsUptoSaid : Prop := crcSumsUptoRow.holds Try.pinned (OpenSpec.upto crcSumsSpec)

/-- 'plaitinglaw2.CrcOpens', WHERE WHAT IT READS IS OF BULK AT MOST 1048576: true; the input reads as it did. -/
def crcOpensUptoRow : OpenClaim := { program := "ytnggjnhfdjjphaa", sum := "0c0777e750904e3b14b5c2991d7a38f0a0983ee7640b1c71bdacc52ae70a96d0", func := "plaiting/plaitinglaw2.CrcOpens", spec := "crcOpens", apart := false, narrowed := true }
def CrcOpensUptoSaid : Prop := crcOpensUptoRow.holds Try.pinned (OpenSpec.upto crcOpensSpec)

/-- 'plaitinglaw2.CrcOne', WHERE WHAT IT READS IS OF BULK AT MOST 1048576: true; the input reads as it did. -/
def crcOneUptoRow : OpenClaim := { program := "ytnggjnhfdjjphaa", sum := "0c0777e750904e3b14b5c2991d7a38f0a0983ee7640b1c71bdacc52ae70a96d0", func := "plaiting/plaitinglaw2.CrcOne", spec := "crcOne", apart := false, narrowed := true }
def CrcOneUptoSaid : Prop := crcOneUptoRow.holds Try.pinned (OpenSpec.upto crcOneSpec)

/-- 'plaitinglaw2.CrcTwo', WHERE WHAT IT READS IS OF BULK AT MOST 1048576: true; the input reads as it did. -/
def crcTwoUptoRow : OpenClaim := { program := "ytnggjnhfdjjphaa", sum := "0c0777e750904e3b14b5c2991d7a38f0a0983ee7640b1c71bdacc52ae70a96d0", func := "plaiting/plaitinglaw2.CrcTwo", spec := "crcTwo", apart := false, narrowed := true }
def CrcTwoUptoSaid : Prop := crcTwoUptoRow.holds Try.pinned (OpenSpec.upto crcTwoSpec)

/-- 'plaitinglaw2.CrcBurst', WHERE WHAT IT READS IS OF BULK AT MOST 1048576: true; the input reads as it did. -/
def crcBurstUptoRow : OpenClaim := { program := "ytnggjnhfdjjphaa", sum := "0c0777e750904e3b14b5c2991d7a38f0a0983ee7640b1c71bdacc52ae70a96d0", func := "plaiting/plaitinglaw2.CrcBurst", spec := "crcBurst", apart := false, narrowed := true }
def CrcBurstUptoSaid : Prop := crcBurstUptoRow.holds Try.pinned (OpenSpec.upto crcBurstSpec)

/-- 'plaitinglaw2.CrcOdd', WHERE WHAT IT READS IS OF BULK AT MOST 1048576: true; the input reads as it did. -/
def crcOddUptoRow : OpenClaim := { program := "ytnggjnhfdjjphaa", sum := "0c0777e750904e3b14b5c2991d7a38f0a0983ee7640b1c71bdacc52ae70a96d0", func := "plaiting/plaitinglaw2.CrcOdd", spec := "crcOdd", apart := false, narrowed := true }
def CrcOddUptoSaid : Prop := crcOddUptoRow.holds Try.pinned (OpenSpec.upto crcOddSpec)

/-- 'plaitinglaw1.SymAll', WHERE WHAT IT READS IS OF BULK AT MOST 1048576: true; the input reads as it did. -/
def symAllUptoRow : OpenClaim := { program := "ytnggjnhfdjjphaa", sum := "0c0777e750904e3b14b5c2991d7a38f0a0983ee7640b1c71bdacc52ae70a96d0", func := "plaiting/plaitinglaw1.SymAll", spec := "symAll", apart := false, narrowed := true }
def SymAllUptoSaid : Prop := symAllUptoRow.holds Try.pinned (OpenSpec.upto symAllSpec)

/-- 'plaitinglaw1.SymKnown', WHERE WHAT IT READS IS OF BULK AT MOST 1048576: true; the input reads as it did. -/
def symKnownUptoRow : OpenClaim := { program := "ytnggjnhfdjjphaa", sum := "0c0777e750904e3b14b5c2991d7a38f0a0983ee7640b1c71bdacc52ae70a96d0", func := "plaiting/plaitinglaw1.SymKnown", spec := "symKnown", apart := false, narrowed := true }
def SymKnownUptoSaid : Prop := symKnownUptoRow.holds Try.pinned (OpenSpec.upto symKnownSpec)

end Rows
end Go.Proofs.Ytnggjnhfdjjphaa
