/-
  No cell of these rows narrows 'for every input' (looked for: loops, veiled, ifaces, maps, wideKeys, modest, calm, conditions, laid).
  DERIVED. THE GIVEN ROWS OF THIS SEAT. 15 by the template 'for every input the law returns true; each argument reads behind the call as it read before'; 0 by the template 'total and deterministic' (their statements: YtekbgfpfafjobaaTotals.lean).
  GIVEN WITH THE SEED: the statements are not yours to turn. If you find one false, say at which input.
  Laid BY PROGRAM, IN A SANDBOX (cutbox-rows.mjs): the forced cells as the released guide's own fill.sh prints them over the translation c2840df6a44f444f… (all of the seat's roots in one cut). By AI agents, Wed Nov 11 2026. No macro, syntax, notation, axiom, sorry.
-/
import Derived.Test.YtekbgfpfafjobaaChecked
import GoSem.Claim
import GoSem.ClaimJoined
import GoSem.ClaimMapViews
import Derived.JoinedTies
import Derived.KernelRfl
namespace Go.Proofs.Ytekbgfpfafjobaa
/- THE CELL 'sum', in the pinned program and in every row, IS THE sha256 OF THE DUMP (.gsa) THAT YtekbgfpfafjobaaProg.lean LOADS. Nothing in Lean hashes anything: it is a label: what it is worth is what the hold of that sum in a sandbox is worth. -/
noncomputable def Try.pinned : Pinned := { name := "ytekbgfpfafjobaa", sum := "c2840df6a44f444f008dd7f95cd38ce61a456591378a1ff448b974d153bcc385", checked := Try.checked }
namespace Rows
def none {H : Type} : Left H := { results := [], args := [] }

/-- 'cuvettelaw12.LotsBack': WHATEVER THE INPUT: true; the input reads as it did. -/
def lotsBackSpec : ChangeSpec := { name := "lotsBack", fn := fun _ => fun
  | [d1, d2] => { results := [.lit (.bool true)], args := [d1, d2] }
  | _ => none }
def lotsBackRow : OpenClaim := { program := "ytekbgfpfafjobaa", sum := "c2840df6a44f444f008dd7f95cd38ce61a456591378a1ff448b974d153bcc385", func := "cuvette/cuvettelaw12.LotsBack", spec := "lotsBack", apart := false }
def LotsBackSaid : Prop := lotsBackRow.holds Try.pinned (OpenSpec.ofChange lotsBackSpec)

/-- ITS FALSE NEIGHBOUR: 'it returns false'. Refute it at one input. -/
def lotsBackWrong : ChangeSpec := { name := "lotsBack", fn := fun _ => fun
  | [d1, d2] => { results := [.lit (.bool false)], args := [d1, d2] }
  | _ => none }
def LotsBackWrongFalsely : Prop := lotsBackRow.holds Try.pinned (OpenSpec.ofChange lotsBackWrong)

/-- 'cuvettelaw12.LotsJump': WHATEVER THE INPUT: true; the input reads as it did. -/
def lotsJumpSpec : ChangeSpec := { name := "lotsJump", fn := fun _ => fun
  | [d1, d2, d3, d4] => { results := [.lit (.bool true)], args := [d1, d2, d3, d4] }
  | _ => none }
def lotsJumpRow : OpenClaim := { program := "ytekbgfpfafjobaa", sum := "c2840df6a44f444f008dd7f95cd38ce61a456591378a1ff448b974d153bcc385", func := "cuvette/cuvettelaw12.LotsJump", spec := "lotsJump", apart := false }
def LotsJumpSaid : Prop := lotsJumpRow.holds Try.pinned (OpenSpec.ofChange lotsJumpSpec)

/-- ITS FALSE NEIGHBOUR: 'it returns false'. Refute it at one input. -/
def lotsJumpWrong : ChangeSpec := { name := "lotsJump", fn := fun _ => fun
  | [d1, d2, d3, d4] => { results := [.lit (.bool false)], args := [d1, d2, d3, d4] }
  | _ => none }
def LotsJumpWrongFalsely : Prop := lotsJumpRow.holds Try.pinned (OpenSpec.ofChange lotsJumpWrong)

/-- 'cuvettelaw12.LotsAround': WHATEVER THE INPUT: true; the input reads as it did. -/
def lotsAroundSpec : ChangeSpec := { name := "lotsAround", fn := fun _ => fun
  | [d1, d2, d3] => { results := [.lit (.bool true)], args := [d1, d2, d3] }
  | _ => none }
def lotsAroundRow : OpenClaim := { program := "ytekbgfpfafjobaa", sum := "c2840df6a44f444f008dd7f95cd38ce61a456591378a1ff448b974d153bcc385", func := "cuvette/cuvettelaw12.LotsAround", spec := "lotsAround", apart := false }
def LotsAroundSaid : Prop := lotsAroundRow.holds Try.pinned (OpenSpec.ofChange lotsAroundSpec)

/-- ITS FALSE NEIGHBOUR: 'it returns false'. Refute it at one input. -/
def lotsAroundWrong : ChangeSpec := { name := "lotsAround", fn := fun _ => fun
  | [d1, d2, d3] => { results := [.lit (.bool false)], args := [d1, d2, d3] }
  | _ => none }
def LotsAroundWrongFalsely : Prop := lotsAroundRow.holds Try.pinned (OpenSpec.ofChange lotsAroundWrong)

/-- 'cuvettelaw12.LotsDoes': WHATEVER THE INPUT: true; the input reads as it did. -/
def lotsDoesSpec : ChangeSpec := { name := "lotsDoes", fn := fun _ => fun
  | [d1, d2, d3] => { results := [.lit (.bool true)], args := [d1, d2, d3] }
  | _ => none }
def lotsDoesRow : OpenClaim := { program := "ytekbgfpfafjobaa", sum := "c2840df6a44f444f008dd7f95cd38ce61a456591378a1ff448b974d153bcc385", func := "cuvette/cuvettelaw12.LotsDoes", spec := "lotsDoes", apart := false }
def LotsDoesSaid : Prop := lotsDoesRow.holds Try.pinned (OpenSpec.ofChange lotsDoesSpec)

/-- ITS FALSE NEIGHBOUR: 'it returns false'. Refute it at one input. -/
def lotsDoesWrong : ChangeSpec := { name := "lotsDoes", fn := fun _ => fun
  | [d1, d2, d3] => { results := [.lit (.bool false)], args := [d1, d2, d3] }
  | _ => none }
def LotsDoesWrongFalsely : Prop := lotsDoesRow.holds Try.pinned (OpenSpec.ofChange lotsDoesWrong)

/-- 'cuvettelaw12.LotsOne': WHATEVER THE INPUT: true; the input reads as it did. -/
def lotsOneSpec : ChangeSpec := { name := "lotsOne", fn := fun _ => fun
  | [d1, d2, d3, d4] => { results := [.lit (.bool true)], args := [d1, d2, d3, d4] }
  | _ => none }
def lotsOneRow : OpenClaim := { program := "ytekbgfpfafjobaa", sum := "c2840df6a44f444f008dd7f95cd38ce61a456591378a1ff448b974d153bcc385", func := "cuvette/cuvettelaw12.LotsOne", spec := "lotsOne", apart := false }
def LotsOneSaid : Prop := lotsOneRow.holds Try.pinned (OpenSpec.ofChange lotsOneSpec)

/-- ITS FALSE NEIGHBOUR: 'it returns false'. Refute it at one input. -/
def lotsOneWrong : ChangeSpec := { name := "lotsOne", fn := fun _ => fun
  | [d1, d2, d3, d4] => { results := [.lit (.bool false)], args := [d1, d2, d3, d4] }
  | _ => none }
def LotsOneWrongFalsely : Prop := lotsOneRow.holds Try.pinned (OpenSpec.ofChange lotsOneWrong)

/-- 'cuvettelaw15.AdmitAll': WHATEVER THE INPUT: true; the input reads as it did. -/
def admitAllSpec : ChangeSpec := { name := "admitAll", fn := fun _ => fun
  | [d1, d2, d3, d4] => { results := [.lit (.bool true)], args := [d1, d2, d3, d4] }
  | _ => none }
def admitAllRow : OpenClaim := { program := "ytekbgfpfafjobaa", sum := "c2840df6a44f444f008dd7f95cd38ce61a456591378a1ff448b974d153bcc385", func := "cuvette/cuvettelaw15.AdmitAll", spec := "admitAll", unfollowed := true, recurses := true, apart := false }
def AdmitAllSaid : Prop := admitAllRow.holds Try.pinned (OpenSpec.ofChange admitAllSpec)

/-- ITS FALSE NEIGHBOUR: 'it returns false'. Refute it at one input. -/
def admitAllWrong : ChangeSpec := { name := "admitAll", fn := fun _ => fun
  | [d1, d2, d3, d4] => { results := [.lit (.bool false)], args := [d1, d2, d3, d4] }
  | _ => none }
def AdmitAllWrongFalsely : Prop := admitAllRow.holds Try.pinned (OpenSpec.ofChange admitAllWrong)

/-- 'cuvettelaw15.AdmitFew': WHATEVER THE INPUT: true; the input reads as it did. -/
def admitFewSpec : ChangeSpec := { name := "admitFew", fn := fun _ => fun
  | [d1, d2] => { results := [.lit (.bool true)], args := [d1, d2] }
  | _ => none }
def admitFewRow : OpenClaim := { program := "ytekbgfpfafjobaa", sum := "c2840df6a44f444f008dd7f95cd38ce61a456591378a1ff448b974d153bcc385", func := "cuvette/cuvettelaw15.AdmitFew", spec := "admitFew", unfollowed := true, recurses := true, apart := false }
def AdmitFewSaid : Prop := admitFewRow.holds Try.pinned (OpenSpec.ofChange admitFewSpec)

/-- ITS FALSE NEIGHBOUR: 'it returns false'. Refute it at one input. -/
def admitFewWrong : ChangeSpec := { name := "admitFew", fn := fun _ => fun
  | [d1, d2] => { results := [.lit (.bool false)], args := [d1, d2] }
  | _ => none }
def AdmitFewWrongFalsely : Prop := admitFewRow.holds Try.pinned (OpenSpec.ofChange admitFewWrong)

/-- 'cuvettelaw15.AdmitSteps': WHATEVER THE INPUT: true; the input reads as it did. -/
def admitStepsSpec : ChangeSpec := { name := "admitSteps", fn := fun _ => fun
  | [d1, d2, d3, d4] => { results := [.lit (.bool true)], args := [d1, d2, d3, d4] }
  | _ => none }
def admitStepsRow : OpenClaim := { program := "ytekbgfpfafjobaa", sum := "c2840df6a44f444f008dd7f95cd38ce61a456591378a1ff448b974d153bcc385", func := "cuvette/cuvettelaw15.AdmitSteps", spec := "admitSteps", unfollowed := true, recurses := true, apart := false }
def AdmitStepsSaid : Prop := admitStepsRow.holds Try.pinned (OpenSpec.ofChange admitStepsSpec)

/-- ITS FALSE NEIGHBOUR: 'it returns false'. Refute it at one input. -/
def admitStepsWrong : ChangeSpec := { name := "admitSteps", fn := fun _ => fun
  | [d1, d2, d3, d4] => { results := [.lit (.bool false)], args := [d1, d2, d3, d4] }
  | _ => none }
def AdmitStepsWrongFalsely : Prop := admitStepsRow.holds Try.pinned (OpenSpec.ofChange admitStepsWrong)

/-- 'cuvettelaw15.AdmitDoes': WHATEVER THE INPUT: true; the input reads as it did. -/
def admitDoesSpec : ChangeSpec := { name := "admitDoes", fn := fun _ => fun
  | [d1, d2, d3, d4, d5, d6, d7] => { results := [.lit (.bool true)], args := [d1, d2, d3, d4, d5, d6, d7] }
  | _ => none }
def admitDoesRow : OpenClaim := { program := "ytekbgfpfafjobaa", sum := "c2840df6a44f444f008dd7f95cd38ce61a456591378a1ff448b974d153bcc385", func := "cuvette/cuvettelaw15.AdmitDoes", spec := "admitDoes", unfollowed := true, recurses := true, apart := false }
def AdmitDoesSaid : Prop := admitDoesRow.holds Try.pinned (OpenSpec.ofChange admitDoesSpec)

/-- ITS FALSE NEIGHBOUR: 'it returns false'. Refute it at one input. -/
def admitDoesWrong : ChangeSpec := { name := "admitDoes", fn := fun _ => fun
  | [d1, d2, d3, d4, d5, d6, d7] => { results := [.lit (.bool false)], args := [d1, d2, d3, d4, d5, d6, d7] }
  | _ => none }
def AdmitDoesWrongFalsely : Prop := admitDoesRow.holds Try.pinned (OpenSpec.ofChange admitDoesWrong)

/-- 'cuvettelaw12.LotsParts': WHATEVER THE INPUT: true; the input reads as it did. -/
def lotsPartsSpec : ChangeSpec := { name := "lotsParts", fn := fun _ => fun
  | [d1, d2, d3, d4] => { results := [.lit (.bool true)], args := [d1, d2, d3, d4] }
  | _ => none }
def lotsPartsRow : OpenClaim := { program := "ytekbgfpfafjobaa", sum := "c2840df6a44f444f008dd7f95cd38ce61a456591378a1ff448b974d153bcc385", func := "cuvette/cuvettelaw12.LotsParts", spec := "lotsParts", apart := false }
def LotsPartsSaid : Prop := lotsPartsRow.holds Try.pinned (OpenSpec.ofChange lotsPartsSpec)

/-- ITS FALSE NEIGHBOUR: 'it returns false'. Refute it at one input. -/
def lotsPartsWrong : ChangeSpec := { name := "lotsParts", fn := fun _ => fun
  | [d1, d2, d3, d4] => { results := [.lit (.bool false)], args := [d1, d2, d3, d4] }
  | _ => none }
def LotsPartsWrongFalsely : Prop := lotsPartsRow.holds Try.pinned (OpenSpec.ofChange lotsPartsWrong)

/-- 'cuvettelaw14.MoveFewer': WHATEVER THE INPUT: true; the input reads as it did. -/
def moveFewerSpec : ChangeSpec := { name := "moveFewer", fn := fun _ => fun
  | [d1, d2, d3, d4] => { results := [.lit (.bool true)], args := [d1, d2, d3, d4] }
  | _ => none }
def moveFewerRow : OpenClaim := { program := "ytekbgfpfafjobaa", sum := "c2840df6a44f444f008dd7f95cd38ce61a456591378a1ff448b974d153bcc385", func := "cuvette/cuvettelaw14.MoveFewer", spec := "moveFewer", apart := false }
def MoveFewerSaid : Prop := moveFewerRow.holds Try.pinned (OpenSpec.ofChange moveFewerSpec)

/-- ITS FALSE NEIGHBOUR: 'it returns false'. Refute it at one input. -/
def moveFewerWrong : ChangeSpec := { name := "moveFewer", fn := fun _ => fun
  | [d1, d2, d3, d4] => { results := [.lit (.bool false)], args := [d1, d2, d3, d4] }
  | _ => none }
def MoveFewerWrongFalsely : Prop := moveFewerRow.holds Try.pinned (OpenSpec.ofChange moveFewerWrong)

/-- 'cuvettelaw14.MoveEnds': WHATEVER THE INPUT: true; the input reads as it did. -/
def moveEndsSpec : ChangeSpec := { name := "moveEnds", fn := fun _ => fun
  | [d1, d2, d3, d4] => { results := [.lit (.bool true)], args := [d1, d2, d3, d4] }
  | _ => none }
def moveEndsRow : OpenClaim := { program := "ytekbgfpfafjobaa", sum := "c2840df6a44f444f008dd7f95cd38ce61a456591378a1ff448b974d153bcc385", func := "cuvette/cuvettelaw14.MoveEnds", spec := "moveEnds", apart := false }
def MoveEndsSaid : Prop := moveEndsRow.holds Try.pinned (OpenSpec.ofChange moveEndsSpec)

/-- ITS FALSE NEIGHBOUR: 'it returns false'. Refute it at one input. -/
def moveEndsWrong : ChangeSpec := { name := "moveEnds", fn := fun _ => fun
  | [d1, d2, d3, d4] => { results := [.lit (.bool false)], args := [d1, d2, d3, d4] }
  | _ => none }
def MoveEndsWrongFalsely : Prop := moveEndsRow.holds Try.pinned (OpenSpec.ofChange moveEndsWrong)

/-- 'cuvettelaw14.MoveParts': WHATEVER THE INPUT: true; the input reads as it did. -/
def movePartsSpec : ChangeSpec := { name := "moveParts", fn := fun _ => fun
  | [d1, d2, d3, d4, d5] => { results := [.lit (.bool true)], args := [d1, d2, d3, d4, d5] }
  | _ => none }
def movePartsRow : OpenClaim := { program := "ytekbgfpfafjobaa", sum := "c2840df6a44f444f008dd7f95cd38ce61a456591378a1ff448b974d153bcc385", func := "cuvette/cuvettelaw14.MoveParts", spec := "moveParts", apart := false }
def MovePartsSaid : Prop := movePartsRow.holds Try.pinned (OpenSpec.ofChange movePartsSpec)

/-- ITS FALSE NEIGHBOUR: 'it returns false'. Refute it at one input. -/
def movePartsWrong : ChangeSpec := { name := "moveParts", fn := fun _ => fun
  | [d1, d2, d3, d4, d5] => { results := [.lit (.bool false)], args := [d1, d2, d3, d4, d5] }
  | _ => none }
def MovePartsWrongFalsely : Prop := movePartsRow.holds Try.pinned (OpenSpec.ofChange movePartsWrong)

/-- 'cuvettelaw14.MoveDoes': WHATEVER THE INPUT: true; the input reads as it did. -/
def moveDoesSpec : ChangeSpec := { name := "moveDoes", fn := fun _ => fun
  | [d1, d2, d3, d4] => { results := [.lit (.bool true)], args := [d1, d2, d3, d4] }
  | _ => none }
def moveDoesRow : OpenClaim := { program := "ytekbgfpfafjobaa", sum := "c2840df6a44f444f008dd7f95cd38ce61a456591378a1ff448b974d153bcc385", func := "cuvette/cuvettelaw14.MoveDoes", spec := "moveDoes", apart := false }
def MoveDoesSaid : Prop := moveDoesRow.holds Try.pinned (OpenSpec.ofChange moveDoesSpec)

/-- ITS FALSE NEIGHBOUR: 'it returns false'. Refute it at one input. -/
def moveDoesWrong : ChangeSpec := { name := "moveDoes", fn := fun _ => fun
  | [d1, d2, d3, d4] => { results := [.lit (.bool false)], args := [d1, d2, d3, d4] }
  | _ => none }
def MoveDoesWrongFalsely : Prop := moveDoesRow.holds Try.pinned (OpenSpec.ofChange moveDoesWrong)

/-- 'cuvettelaw15.AdmitWait': WHATEVER THE INPUT: true; the input reads as it did. -/
def admitWaitSpec : ChangeSpec := { name := "admitWait", fn := fun _ => fun
  | [d1, d2, d3, d4, d5] => { results := [.lit (.bool true)], args := [d1, d2, d3, d4, d5] }
  | _ => none }
def admitWaitRow : OpenClaim := { program := "ytekbgfpfafjobaa", sum := "c2840df6a44f444f008dd7f95cd38ce61a456591378a1ff448b974d153bcc385", func := "cuvette/cuvettelaw15.AdmitWait", spec := "admitWait", unfollowed := true, recurses := true, apart := false }
def AdmitWaitSaid : Prop := admitWaitRow.holds Try.pinned (OpenSpec.ofChange admitWaitSpec)

/-- ITS FALSE NEIGHBOUR: 'it returns false'. Refute it at one input. -/
def admitWaitWrong : ChangeSpec := { name := "admitWait", fn := fun _ => fun
  | [d1, d2, d3, d4, d5] => { results := [.lit (.bool false)], args := [d1, d2, d3, d4, d5] }
  | _ => none }
def AdmitWaitWrongFalsely : Prop := admitWaitRow.holds Try.pinned (OpenSpec.ofChange admitWaitWrong)

/- THE SECOND FORM. 'bulk': how many values and letters a reading holds, each counted each time it is reached (what is shared counts as often as it is met; a slice's spare places count too). A statement '..UptoSaid' is the law's where the arguments, and the package variables that the reading takes, are together of bulk at most 1048576: NARROWER than '..Said'. Prove '..Said' where nothing that the law and all that it calls make is longer than what came in: it says more and counts as full. Else prove '..UptoSaid'. A law counts once. -/
mutual
def uptoBulk {H : Type} : DataW H → Nat
  | .lit (.string bytes) => bytes.length + 1
  | .lit _ => 1
  | .nil => 1
  | .ptr d => uptoBulk d + 1
  | .slice elems spare => uptoBulkAll elems + uptoBulkAll spare + 1
  | .agg parts => uptoBulkAll parts + 1
  | .iface _ d => uptoBulk d + 1
  | .map entries => uptoBulkEntries entries + 1
  | .held _ => 1
def uptoBulkAll {H : Type} : List (DataW H) → Nat
  | [] => 0
  | d :: r => uptoBulk d + uptoBulkAll r
def uptoBulkEntries {H : Type} : List (Lit × DataW H) → Nat
  | [] => 0
  | x :: r => uptoBulkEntry x + uptoBulkEntries r
def uptoBulkEntry {H : Type} : Lit × DataW H → Nat
  | (.string bytes, d) => bytes.length + uptoBulk d + 1
  | (_, d) => uptoBulk d + 1
 end
def uptoSmall : (H : Type) → List (DataW H) → Bool := fun _ ds => decide (uptoBulkAll ds ≤ 1048576)
def OpenSpec.upto (s : _root_.Go.ChangeSpec) : _root_.Go.OpenSpec := { _root_.Go.OpenSpec.ofChange s with cond := some uptoSmall }

/-- 'cuvettelaw12.LotsBack', WHERE WHAT IT READS IS OF BULK AT MOST 1048576: true; the input reads as it did. -/
def lotsBackUptoRow : OpenClaim := { program := "ytekbgfpfafjobaa", sum := "c2840df6a44f444f008dd7f95cd38ce61a456591378a1ff448b974d153bcc385", func := "cuvette/cuvettelaw12.LotsBack", spec := "lotsBack", apart := false, narrowed := true }
def LotsBackUptoSaid : Prop := lotsBackUptoRow.holds Try.pinned (OpenSpec.upto lotsBackSpec)

/-- 'cuvettelaw12.LotsJump', WHERE WHAT IT READS IS OF BULK AT MOST 1048576: true; the input reads as it did. -/
def lotsJumpUptoRow : OpenClaim := { program := "ytekbgfpfafjobaa", sum := "c2840df6a44f444f008dd7f95cd38ce61a456591378a1ff448b974d153bcc385", func := "cuvette/cuvettelaw12.LotsJump", spec := "lotsJump", apart := false, narrowed := true }
def LotsJumpUptoSaid : Prop := lotsJumpUptoRow.holds Try.pinned (OpenSpec.upto lotsJumpSpec)

/-- 'cuvettelaw12.LotsAround', WHERE WHAT IT READS IS OF BULK AT MOST 1048576: true; the input reads as it did. -/
def lotsAroundUptoRow : OpenClaim := { program := "ytekbgfpfafjobaa", sum := "c2840df6a44f444f008dd7f95cd38ce61a456591378a1ff448b974d153bcc385", func := "cuvette/cuvettelaw12.LotsAround", spec := "lotsAround", apart := false, narrowed := true }
def LotsAroundUptoSaid : Prop := lotsAroundUptoRow.holds Try.pinned (OpenSpec.upto lotsAroundSpec)

/-- 'cuvettelaw12.LotsDoes', WHERE WHAT IT READS IS OF BULK AT MOST 1048576: true; the input reads as it did. -/
def lotsDoesUptoRow : OpenClaim := { program := "ytekbgfpfafjobaa", sum := "c2840df6a44f444f008dd7f95cd38ce61a456591378a1ff448b974d153bcc385", func := "cuvette/cuvettelaw12.LotsDoes", spec := "lotsDoes", apart := false, narrowed := true }
def LotsDoesUptoSaid : Prop := lotsDoesUptoRow.holds Try.pinned (OpenSpec.upto lotsDoesSpec)

/-- 'cuvettelaw12.LotsOne', WHERE WHAT IT READS IS OF BULK AT MOST 1048576: true; the input reads as it did. -/
def lotsOneUptoRow : OpenClaim := { program := "ytekbgfpfafjobaa", sum := "c2840df6a44f444f008dd7f95cd38ce61a456591378a1ff448b974d153bcc385", func := "cuvette/cuvettelaw12.LotsOne", spec := "lotsOne", apart := false, narrowed := true }
def LotsOneUptoSaid : Prop := lotsOneUptoRow.holds Try.pinned (OpenSpec.upto lotsOneSpec)

/-- 'cuvettelaw15.AdmitAll', WHERE WHAT IT READS IS OF BULK AT MOST 1048576: true; the input reads as it did. -/
def admitAllUptoRow : OpenClaim := { program := "ytekbgfpfafjobaa", sum := "c2840df6a44f444f008dd7f95cd38ce61a456591378a1ff448b974d153bcc385", func := "cuvette/cuvettelaw15.AdmitAll", spec := "admitAll", unfollowed := true, recurses := true, apart := false, narrowed := true }
def AdmitAllUptoSaid : Prop := admitAllUptoRow.holds Try.pinned (OpenSpec.upto admitAllSpec)

/-- 'cuvettelaw15.AdmitFew', WHERE WHAT IT READS IS OF BULK AT MOST 1048576: true; the input reads as it did. -/
def admitFewUptoRow : OpenClaim := { program := "ytekbgfpfafjobaa", sum := "c2840df6a44f444f008dd7f95cd38ce61a456591378a1ff448b974d153bcc385", func := "cuvette/cuvettelaw15.AdmitFew", spec := "admitFew", unfollowed := true, recurses := true, apart := false, narrowed := true }
def AdmitFewUptoSaid : Prop := admitFewUptoRow.holds Try.pinned (OpenSpec.upto admitFewSpec)

/-- 'cuvettelaw15.AdmitSteps', WHERE WHAT IT READS IS OF BULK AT MOST 1048576: true; the input reads as it did. -/
def admitStepsUptoRow : OpenClaim := { program := "ytekbgfpfafjobaa", sum := "c2840df6a44f444f008dd7f95cd38ce61a456591378a1ff448b974d153bcc385", func := "cuvette/cuvettelaw15.AdmitSteps", spec := "admitSteps", unfollowed := true, recurses := true, apart := false, narrowed := true }
def AdmitStepsUptoSaid : Prop := admitStepsUptoRow.holds Try.pinned (OpenSpec.upto admitStepsSpec)

/-- 'cuvettelaw15.AdmitDoes', WHERE WHAT IT READS IS OF BULK AT MOST 1048576: true; the input reads as it did. -/
def admitDoesUptoRow : OpenClaim := { program := "ytekbgfpfafjobaa", sum := "c2840df6a44f444f008dd7f95cd38ce61a456591378a1ff448b974d153bcc385", func := "cuvette/cuvettelaw15.AdmitDoes", spec := "admitDoes", unfollowed := true, recurses := true, apart := false, narrowed := true }
def AdmitDoesUptoSaid : Prop := admitDoesUptoRow.holds Try.pinned (OpenSpec.upto admitDoesSpec)

/-- 'cuvettelaw12.LotsParts', WHERE WHAT IT READS IS OF BULK AT MOST 1048576: true; the input reads as it did. -/
def lotsPartsUptoRow : OpenClaim := { program := "ytekbgfpfafjobaa", sum := "c2840df6a44f444f008dd7f95cd38ce61a456591378a1ff448b974d153bcc385", func := "cuvette/cuvettelaw12.LotsParts", spec := "lotsParts", apart := false, narrowed := true }
def LotsPartsUptoSaid : Prop := lotsPartsUptoRow.holds Try.pinned (OpenSpec.upto lotsPartsSpec)

/-- 'cuvettelaw14.MoveFewer', WHERE WHAT IT READS IS OF BULK AT MOST 1048576: true; the input reads as it did. -/
def moveFewerUptoRow : OpenClaim := { program := "ytekbgfpfafjobaa", sum := "c2840df6a44f444f008dd7f95cd38ce61a456591378a1ff448b974d153bcc385", func := "cuvette/cuvettelaw14.MoveFewer", spec := "moveFewer", apart := false, narrowed := true }
def MoveFewerUptoSaid : Prop := moveFewerUptoRow.holds Try.pinned (OpenSpec.upto moveFewerSpec)

/-- 'cuvettelaw14.MoveEnds', WHERE WHAT IT READS IS OF BULK AT MOST 1048576: true; the input reads as it did. -/
def moveEndsUptoRow : OpenClaim := { program := "ytekbgfpfafjobaa", sum := "c2840df6a44f444f008dd7f95cd38ce61a456591378a1ff448b974d153bcc385", func := "cuvette/cuvettelaw14.MoveEnds", spec := "moveEnds", apart := false, narrowed := true }
def MoveEndsUptoSaid : Prop := moveEndsUptoRow.holds Try.pinned (OpenSpec.upto moveEndsSpec)

/-- 'cuvettelaw14.MoveParts', WHERE WHAT IT READS IS OF BULK AT MOST 1048576: true; the input reads as it did. -/
def movePartsUptoRow : OpenClaim := { program := "ytekbgfpfafjobaa", sum := "c2840df6a44f444f008dd7f95cd38ce61a456591378a1ff448b974d153bcc385", func := "cuvette/cuvettelaw14.MoveParts", spec := "moveParts", apart := false, narrowed := true }
def MovePartsUptoSaid : Prop := movePartsUptoRow.holds Try.pinned (OpenSpec.upto movePartsSpec)

/-- 'cuvettelaw14.MoveDoes', WHERE WHAT IT READS IS OF BULK AT MOST 1048576: true; the input reads as it did. -/
def moveDoesUptoRow : OpenClaim := { program := "ytekbgfpfafjobaa", sum := "c2840df6a44f444f008dd7f95cd38ce61a456591378a1ff448b974d153bcc385", func := "cuvette/cuvettelaw14.MoveDoes", spec := "moveDoes", apart := false, narrowed := true }
def MoveDoesUptoSaid : Prop := moveDoesUptoRow.holds Try.pinned (OpenSpec.upto moveDoesSpec)

/-- 'cuvettelaw15.AdmitWait', WHERE WHAT IT READS IS OF BULK AT MOST 1048576: true; the input reads as it did. -/
def admitWaitUptoRow : OpenClaim := { program := "ytekbgfpfafjobaa", sum := "c2840df6a44f444f008dd7f95cd38ce61a456591378a1ff448b974d153bcc385", func := "cuvette/cuvettelaw15.AdmitWait", spec := "admitWait", unfollowed := true, recurses := true, apart := false, narrowed := true }
def AdmitWaitUptoSaid : Prop := admitWaitUptoRow.holds Try.pinned (OpenSpec.upto admitWaitSpec)

end Rows
end Go.Proofs.Ytekbgfpfafjobaa
