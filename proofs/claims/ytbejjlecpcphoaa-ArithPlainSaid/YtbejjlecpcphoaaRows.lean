/-
  No cell of these rows narrows 'for every input' (looked for: loops, veiled, ifaces, maps, wideKeys, modest, calm, conditions, laid).
  DERIVED. THE GIVEN ROWS OF THIS SEAT. 16 by the template 'for every input the law returns true; each argument reads behind the call as it read before'; 0 by the template 'total and deterministic' (their statements: YtbejjlecpcphoaaTotals.lean).
  GIVEN WITH THE SEED: the statements are not yours to turn. If you find one false, say at which input.
  Laid BY PROGRAM, IN A SANDBOX (cutbox-rows.mjs): the forced cells as the released guide's own fill.sh prints them over the translation ddbbdd64e1ae7fe6… (all of the seat's roots in one cut). By AI agents, Wed Nov 11 2026. No macro, syntax, notation, axiom, sorry.
-/
import Derived.Test.YtbejjlecpcphoaaChecked
import GoSem.Claim
import GoSem.ClaimJoined
import GoSem.ClaimMapViews
import Derived.JoinedTies
import Derived.KernelRfl
namespace Go.Proofs.Ytbejjlecpcphoaa
/- THE CELL 'sum', in the pinned program and in every row, IS THE sha256 OF THE DUMP (.gsa) THAT YtbejjlecpcphoaaProg.lean LOADS. Nothing in Lean hashes anything: it is a label: what it is worth is what the hold of that sum in a sandbox is worth. -/
noncomputable def Try.pinned : Pinned := { name := "ytbejjlecpcphoaa", sum := "ddbbdd64e1ae7fe649c9c4691607135a943602bd99e3bacbaeb754c4756af28c", checked := Try.checked }
namespace Rows
def none {H : Type} : Left H := { results := [], args := [] }

/-- 'tabardlaw3.FloatJoins': WHATEVER THE INPUT: true; the input reads as it did. -/
def floatJoinsSpec : ChangeSpec := { name := "floatJoins", fn := fun _ => fun
  | [d1, d2, d3, d4] => { results := [.lit (.bool true)], args := [d1, d2, d3, d4] }
  | _ => none }
def floatJoinsRow : OpenClaim := { program := "ytbejjlecpcphoaa", sum := "ddbbdd64e1ae7fe649c9c4691607135a943602bd99e3bacbaeb754c4756af28c", func := "tabard/tabardlaw3.FloatJoins", spec := "floatJoins", unfollowed := true, recurses := true, apart := false }
def FloatJoinsSaid : Prop := floatJoinsRow.holds Try.pinned (OpenSpec.ofChange floatJoinsSpec)

/-- ITS FALSE NEIGHBOUR: 'it returns false'. Refute it at one input. -/
def floatJoinsWrong : ChangeSpec := { name := "floatJoins", fn := fun _ => fun
  | [d1, d2, d3, d4] => { results := [.lit (.bool false)], args := [d1, d2, d3, d4] }
  | _ => none }
def FloatJoinsWrongFalsely : Prop := floatJoinsRow.holds Try.pinned (OpenSpec.ofChange floatJoinsWrong)

/-- 'tabardlaw3.FloatNexts': WHATEVER THE INPUT: true; the input reads as it did. -/
def floatNextsSpec : ChangeSpec := { name := "floatNexts", fn := fun _ => fun
  | [d] => { results := [.lit (.bool true)], args := [d] }
  | _ => none }
def floatNextsRow : OpenClaim := { program := "ytbejjlecpcphoaa", sum := "ddbbdd64e1ae7fe649c9c4691607135a943602bd99e3bacbaeb754c4756af28c", func := "tabard/tabardlaw3.FloatNexts", spec := "floatNexts", unfollowed := true, recurses := true, apart := false }
def FloatNextsSaid : Prop := floatNextsRow.holds Try.pinned (OpenSpec.ofChange floatNextsSpec)

/-- ITS FALSE NEIGHBOUR: 'it returns false'. Refute it at one input. -/
def floatNextsWrong : ChangeSpec := { name := "floatNexts", fn := fun _ => fun
  | [d] => { results := [.lit (.bool false)], args := [d] }
  | _ => none }
def FloatNextsWrongFalsely : Prop := floatNextsRow.holds Try.pinned (OpenSpec.ofChange floatNextsWrong)

/-- 'tabardlaw3.FloatOrders': WHATEVER THE INPUT: true; the input reads as it did. -/
def floatOrdersSpec : ChangeSpec := { name := "floatOrders", fn := fun _ => fun
  | [d1, d2, d3] => { results := [.lit (.bool true)], args := [d1, d2, d3] }
  | _ => none }
def floatOrdersRow : OpenClaim := { program := "ytbejjlecpcphoaa", sum := "ddbbdd64e1ae7fe649c9c4691607135a943602bd99e3bacbaeb754c4756af28c", func := "tabard/tabardlaw3.FloatOrders", spec := "floatOrders", unfollowed := true, recurses := true, apart := false }
def FloatOrdersSaid : Prop := floatOrdersRow.holds Try.pinned (OpenSpec.ofChange floatOrdersSpec)

/-- ITS FALSE NEIGHBOUR: 'it returns false'. Refute it at one input. -/
def floatOrdersWrong : ChangeSpec := { name := "floatOrders", fn := fun _ => fun
  | [d1, d2, d3] => { results := [.lit (.bool false)], args := [d1, d2, d3] }
  | _ => none }
def FloatOrdersWrongFalsely : Prop := floatOrdersRow.holds Try.pinned (OpenSpec.ofChange floatOrdersWrong)

/-- 'tabardlaw3.FloatParts': WHATEVER THE INPUT: true; the input reads as it did. -/
def floatPartsSpec : ChangeSpec := { name := "floatParts", fn := fun _ => fun
  | [d] => { results := [.lit (.bool true)], args := [d] }
  | _ => none }
def floatPartsRow : OpenClaim := { program := "ytbejjlecpcphoaa", sum := "ddbbdd64e1ae7fe649c9c4691607135a943602bd99e3bacbaeb754c4756af28c", func := "tabard/tabardlaw3.FloatParts", spec := "floatParts", unfollowed := true, recurses := true, apart := false }
def FloatPartsSaid : Prop := floatPartsRow.holds Try.pinned (OpenSpec.ofChange floatPartsSpec)

/-- ITS FALSE NEIGHBOUR: 'it returns false'. Refute it at one input. -/
def floatPartsWrong : ChangeSpec := { name := "floatParts", fn := fun _ => fun
  | [d] => { results := [.lit (.bool false)], args := [d] }
  | _ => none }
def FloatPartsWrongFalsely : Prop := floatPartsRow.holds Try.pinned (OpenSpec.ofChange floatPartsWrong)

/-- 'tabardlaw3.FloatRounds': WHATEVER THE INPUT: true; the input reads as it did. -/
def floatRoundsSpec : ChangeSpec := { name := "floatRounds", fn := fun _ => fun
  | [d1, d2, d3, d4] => { results := [.lit (.bool true)], args := [d1, d2, d3, d4] }
  | _ => none }
def floatRoundsRow : OpenClaim := { program := "ytbejjlecpcphoaa", sum := "ddbbdd64e1ae7fe649c9c4691607135a943602bd99e3bacbaeb754c4756af28c", func := "tabard/tabardlaw3.FloatRounds", spec := "floatRounds", unfollowed := true, recurses := true, apart := false }
def FloatRoundsSaid : Prop := floatRoundsRow.holds Try.pinned (OpenSpec.ofChange floatRoundsSpec)

/-- ITS FALSE NEIGHBOUR: 'it returns false'. Refute it at one input. -/
def floatRoundsWrong : ChangeSpec := { name := "floatRounds", fn := fun _ => fun
  | [d1, d2, d3, d4] => { results := [.lit (.bool false)], args := [d1, d2, d3, d4] }
  | _ => none }
def FloatRoundsWrongFalsely : Prop := floatRoundsRow.holds Try.pinned (OpenSpec.ofChange floatRoundsWrong)

/-- 'tabardlaw3.FloatBack': WHATEVER THE INPUT: true; the input reads as it did. -/
def floatBackSpec : ChangeSpec := { name := "floatBack", fn := fun _ => fun
  | [d] => { results := [.lit (.bool true)], args := [d] }
  | _ => none }
def floatBackRow : OpenClaim := { program := "ytbejjlecpcphoaa", sum := "ddbbdd64e1ae7fe649c9c4691607135a943602bd99e3bacbaeb754c4756af28c", func := "tabard/tabardlaw3.FloatBack", spec := "floatBack", unfollowed := true, recurses := true, apart := false }
def FloatBackSaid : Prop := floatBackRow.holds Try.pinned (OpenSpec.ofChange floatBackSpec)

/-- ITS FALSE NEIGHBOUR: 'it returns false'. Refute it at one input. -/
def floatBackWrong : ChangeSpec := { name := "floatBack", fn := fun _ => fun
  | [d] => { results := [.lit (.bool false)], args := [d] }
  | _ => none }
def FloatBackWrongFalsely : Prop := floatBackRow.holds Try.pinned (OpenSpec.ofChange floatBackWrong)

/-- 'tabardlaw2.WideSums': WHATEVER THE INPUT: true; the input reads as it did. -/
def wideSumsSpec : ChangeSpec := { name := "wideSums", fn := fun _ => fun
  | [d1, d2] => { results := [.lit (.bool true)], args := [d1, d2] }
  | _ => none }
def wideSumsRow : OpenClaim := { program := "ytbejjlecpcphoaa", sum := "ddbbdd64e1ae7fe649c9c4691607135a943602bd99e3bacbaeb754c4756af28c", func := "tabard/tabardlaw2.WideSums", spec := "wideSums", inPlace := ["math/bits.Add64", "math/bits.Sub64"], named := ["math/bits.divideError", "math/bits.overflowError"], apart := false }
def WideSumsSaid : Prop := wideSumsRow.holds Try.pinned (OpenSpec.ofChange wideSumsSpec)

/-- ITS FALSE NEIGHBOUR: 'it returns false'. Refute it at one input. -/
def wideSumsWrong : ChangeSpec := { name := "wideSums", fn := fun _ => fun
  | [d1, d2] => { results := [.lit (.bool false)], args := [d1, d2] }
  | _ => none }
def WideSumsWrongFalsely : Prop := wideSumsRow.holds Try.pinned (OpenSpec.ofChange wideSumsWrong)

/-- 'tabardlaw2.WideShifts': WHATEVER THE INPUT: true; the input reads as it did. -/
def wideShiftsSpec : ChangeSpec := { name := "wideShifts", fn := fun _ => fun
  | [d1, d2, d3] => { results := [.lit (.bool true)], args := [d1, d2, d3] }
  | _ => none }
def wideShiftsRow : OpenClaim := { program := "ytbejjlecpcphoaa", sum := "ddbbdd64e1ae7fe649c9c4691607135a943602bd99e3bacbaeb754c4756af28c", func := "tabard/tabardlaw2.WideShifts", spec := "wideShifts", inPlace := ["math/bits.Add64", "math/bits.Sub64"], named := ["math/bits.divideError", "math/bits.overflowError"], apart := false }
def WideShiftsSaid : Prop := wideShiftsRow.holds Try.pinned (OpenSpec.ofChange wideShiftsSpec)

/-- ITS FALSE NEIGHBOUR: 'it returns false'. Refute it at one input. -/
def wideShiftsWrong : ChangeSpec := { name := "wideShifts", fn := fun _ => fun
  | [d1, d2, d3] => { results := [.lit (.bool false)], args := [d1, d2, d3] }
  | _ => none }
def WideShiftsWrongFalsely : Prop := wideShiftsRow.holds Try.pinned (OpenSpec.ofChange wideShiftsWrong)

/-- 'tabardlaw2.WideTimes': WHATEVER THE INPUT: true; the input reads as it did. -/
def wideTimesSpec : ChangeSpec := { name := "wideTimes", fn := fun _ => fun
  | [d1, d2, d3, d4] => { results := [.lit (.bool true)], args := [d1, d2, d3, d4] }
  | _ => none }
def wideTimesRow : OpenClaim := { program := "ytbejjlecpcphoaa", sum := "ddbbdd64e1ae7fe649c9c4691607135a943602bd99e3bacbaeb754c4756af28c", func := "tabard/tabardlaw2.WideTimes", spec := "wideTimes", inPlace := ["math/bits.Add64", "math/bits.Sub64"], named := ["math/bits.divideError", "math/bits.overflowError"], apart := false }
def WideTimesSaid : Prop := wideTimesRow.holds Try.pinned (OpenSpec.ofChange wideTimesSpec)

/-- ITS FALSE NEIGHBOUR: 'it returns false'. Refute it at one input. -/
def wideTimesWrong : ChangeSpec := { name := "wideTimes", fn := fun _ => fun
  | [d1, d2, d3, d4] => { results := [.lit (.bool false)], args := [d1, d2, d3, d4] }
  | _ => none }
def WideTimesWrongFalsely : Prop := wideTimesRow.holds Try.pinned (OpenSpec.ofChange wideTimesWrong)

/-- 'tabardlaw2.WideBack': WHATEVER THE INPUT: true; the input reads as it did. -/
def wideBackSpec : ChangeSpec := { name := "wideBack", fn := fun _ => fun
  | [d1, d2, d3] => { results := [.lit (.bool true)], args := [d1, d2, d3] }
  | _ => none }
def wideBackRow : OpenClaim := { program := "ytbejjlecpcphoaa", sum := "ddbbdd64e1ae7fe649c9c4691607135a943602bd99e3bacbaeb754c4756af28c", func := "tabard/tabardlaw2.WideBack", spec := "wideBack", inPlace := ["math/bits.Add64", "math/bits.Sub64"], named := ["math/bits.divideError", "math/bits.overflowError"], apart := false }
def WideBackSaid : Prop := wideBackRow.holds Try.pinned (OpenSpec.ofChange wideBackSpec)

/-- ITS FALSE NEIGHBOUR: 'it returns false'. Refute it at one input. -/
def wideBackWrong : ChangeSpec := { name := "wideBack", fn := fun _ => fun
  | [d1, d2, d3] => { results := [.lit (.bool false)], args := [d1, d2, d3] }
  | _ => none }
def WideBackWrongFalsely : Prop := wideBackRow.holds Try.pinned (OpenSpec.ofChange wideBackWrong)

/-- 'tabardlaw2.WideRoots': WHATEVER THE INPUT: true; the input reads as it did. -/
def wideRootsSpec : ChangeSpec := { name := "wideRoots", fn := fun _ => fun
  | [d] => { results := [.lit (.bool true)], args := [d] }
  | _ => none }
def wideRootsRow : OpenClaim := { program := "ytbejjlecpcphoaa", sum := "ddbbdd64e1ae7fe649c9c4691607135a943602bd99e3bacbaeb754c4756af28c", func := "tabard/tabardlaw2.WideRoots", spec := "wideRoots", inPlace := ["math/bits.Add64", "math/bits.Sub64"], named := ["math/bits.divideError", "math/bits.overflowError"], apart := false }
def WideRootsSaid : Prop := wideRootsRow.holds Try.pinned (OpenSpec.ofChange wideRootsSpec)

/-- ITS FALSE NEIGHBOUR: 'it returns false'. Refute it at one input. -/
def wideRootsWrong : ChangeSpec := { name := "wideRoots", fn := fun _ => fun
  | [d] => { results := [.lit (.bool false)], args := [d] }
  | _ => none }
def WideRootsWrongFalsely : Prop := wideRootsRow.holds Try.pinned (OpenSpec.ofChange wideRootsWrong)

/-- 'tabardlaw4.ArithAdds': WHATEVER THE INPUT: true; the input reads as it did. -/
def arithAddsSpec : ChangeSpec := { name := "arithAdds", fn := fun _ => fun
  | [d1, d2] => { results := [.lit (.bool true)], args := [d1, d2] }
  | _ => none }
def arithAddsRow : OpenClaim := { program := "ytbejjlecpcphoaa", sum := "ddbbdd64e1ae7fe649c9c4691607135a943602bd99e3bacbaeb754c4756af28c", func := "tabard/tabardlaw4.ArithAdds", spec := "arithAdds", inPlace := ["math/bits.Add64", "math/bits.Sub64"], unfollowed := true, recurses := true, apart := false }
def ArithAddsSaid : Prop := arithAddsRow.holds Try.pinned (OpenSpec.ofChange arithAddsSpec)

/-- ITS FALSE NEIGHBOUR: 'it returns false'. Refute it at one input. -/
def arithAddsWrong : ChangeSpec := { name := "arithAdds", fn := fun _ => fun
  | [d1, d2] => { results := [.lit (.bool false)], args := [d1, d2] }
  | _ => none }
def ArithAddsWrongFalsely : Prop := arithAddsRow.holds Try.pinned (OpenSpec.ofChange arithAddsWrong)

/-- 'tabardlaw4.ArithMuls': WHATEVER THE INPUT: true; the input reads as it did. -/
def arithMulsSpec : ChangeSpec := { name := "arithMuls", fn := fun _ => fun
  | [d1, d2] => { results := [.lit (.bool true)], args := [d1, d2] }
  | _ => none }
def arithMulsRow : OpenClaim := { program := "ytbejjlecpcphoaa", sum := "ddbbdd64e1ae7fe649c9c4691607135a943602bd99e3bacbaeb754c4756af28c", func := "tabard/tabardlaw4.ArithMuls", spec := "arithMuls", inPlace := ["math/bits.Add64", "math/bits.Sub64"], unfollowed := true, recurses := true, apart := false }
def ArithMulsSaid : Prop := arithMulsRow.holds Try.pinned (OpenSpec.ofChange arithMulsSpec)

/-- ITS FALSE NEIGHBOUR: 'it returns false'. Refute it at one input. -/
def arithMulsWrong : ChangeSpec := { name := "arithMuls", fn := fun _ => fun
  | [d1, d2] => { results := [.lit (.bool false)], args := [d1, d2] }
  | _ => none }
def ArithMulsWrongFalsely : Prop := arithMulsRow.holds Try.pinned (OpenSpec.ofChange arithMulsWrong)

/-- 'tabardlaw4.ArithSums': WHATEVER THE INPUT: true; the input reads as it did. -/
def arithSumsSpec : ChangeSpec := { name := "arithSums", fn := fun _ => fun
  | [d] => { results := [.lit (.bool true)], args := [d] }
  | _ => none }
def arithSumsRow : OpenClaim := { program := "ytbejjlecpcphoaa", sum := "ddbbdd64e1ae7fe649c9c4691607135a943602bd99e3bacbaeb754c4756af28c", func := "tabard/tabardlaw4.ArithSums", spec := "arithSums", inPlace := ["math/bits.Add64", "math/bits.Sub64"], unfollowed := true, recurses := true, apart := false }
def ArithSumsSaid : Prop := arithSumsRow.holds Try.pinned (OpenSpec.ofChange arithSumsSpec)

/-- ITS FALSE NEIGHBOUR: 'it returns false'. Refute it at one input. -/
def arithSumsWrong : ChangeSpec := { name := "arithSums", fn := fun _ => fun
  | [d] => { results := [.lit (.bool false)], args := [d] }
  | _ => none }
def ArithSumsWrongFalsely : Prop := arithSumsRow.holds Try.pinned (OpenSpec.ofChange arithSumsWrong)

/-- 'tabardlaw4.ArithTurns': WHATEVER THE INPUT: true; the input reads as it did. -/
def arithTurnsSpec : ChangeSpec := { name := "arithTurns", fn := fun _ => fun
  | [d1, d2] => { results := [.lit (.bool true)], args := [d1, d2] }
  | _ => none }
def arithTurnsRow : OpenClaim := { program := "ytbejjlecpcphoaa", sum := "ddbbdd64e1ae7fe649c9c4691607135a943602bd99e3bacbaeb754c4756af28c", func := "tabard/tabardlaw4.ArithTurns", spec := "arithTurns", inPlace := ["math/bits.Add64", "math/bits.Sub64"], unfollowed := true, recurses := true, apart := false }
def ArithTurnsSaid : Prop := arithTurnsRow.holds Try.pinned (OpenSpec.ofChange arithTurnsSpec)

/-- ITS FALSE NEIGHBOUR: 'it returns false'. Refute it at one input. -/
def arithTurnsWrong : ChangeSpec := { name := "arithTurns", fn := fun _ => fun
  | [d1, d2] => { results := [.lit (.bool false)], args := [d1, d2] }
  | _ => none }
def ArithTurnsWrongFalsely : Prop := arithTurnsRow.holds Try.pinned (OpenSpec.ofChange arithTurnsWrong)

/-- 'tabardlaw4.ArithPlain': WHATEVER THE INPUT: true; the input reads as it did. -/
def arithPlainSpec : ChangeSpec := { name := "arithPlain", fn := fun _ => fun
  | [d] => { results := [.lit (.bool true)], args := [d] }
  | _ => none }
def arithPlainRow : OpenClaim := { program := "ytbejjlecpcphoaa", sum := "ddbbdd64e1ae7fe649c9c4691607135a943602bd99e3bacbaeb754c4756af28c", func := "tabard/tabardlaw4.ArithPlain", spec := "arithPlain", inPlace := ["math/bits.Add64", "math/bits.Sub64"], unfollowed := true, recurses := true, apart := false }
def ArithPlainSaid : Prop := arithPlainRow.holds Try.pinned (OpenSpec.ofChange arithPlainSpec)

/-- ITS FALSE NEIGHBOUR: 'it returns false'. Refute it at one input. -/
def arithPlainWrong : ChangeSpec := { name := "arithPlain", fn := fun _ => fun
  | [d] => { results := [.lit (.bool false)], args := [d] }
  | _ => none }
def ArithPlainWrongFalsely : Prop := arithPlainRow.holds Try.pinned (OpenSpec.ofChange arithPlainWrong)

/- THE SECOND FORM. 'bulk': how many values and letters a reading holds, each counted each time it is reached (what is shared counts as often as it is met; a slice's spare places count too). A statement '..UptoSaid' is the law's where the arguments, and the package variables that the reading takes, are together of bulk at most 1048576: NARROWER than '..Said'. Prove '..Said' where nothing that the law and all that it calls make is longer than what came in: it says more and counts as full. Else prove '..UptoSaid'. A law counts once. -/
mutual
def uptoBulk {H : Type} : DataW H → Nat
  | .lit (.string bytes) => bytes.length + 1
  | .lit _ => 1
  | .nil => 1
  | .ptr d => uptoBulk d + 1
  | .slice elems spare => uptoBulkAll elems + uptoBulkAll spare + 1
  | .agg parts => uptoBulkAll parts + 1
  | .iface _ d => uptoBulk d + 1
  | .map entries => uptoBulkEntries entries + 1
  | .held _ => 1
def uptoBulkAll {H : Type} : List (DataW H) → Nat
  | [] => 0
  | d :: r => uptoBulk d + uptoBulkAll r
def uptoBulkEntries {H : Type} : List (Lit × DataW H) → Nat
  | [] => 0
  | x :: r => uptoBulkEntry x + uptoBulkEntries r
def uptoBulkEntry {H : Type} : Lit × DataW H → Nat
  | (.string bytes, d) => bytes.length + uptoBulk d + 1
  | (_, d) => uptoBulk d + 1
 end
def uptoSmall : (H : Type) → List (DataW H) → Bool := fun _ ds => decide (uptoBulkAll ds ≤ 1048576)
def OpenSpec.upto (s : _root_.Go.ChangeSpec) : _root_.Go.OpenSpec := { _root_.Go.OpenSpec.ofChange s with cond := some uptoSmall }

/-- 'tabardlaw3.FloatJoins', WHERE WHAT IT READS IS OF BULK AT MOST 1048576: true; the input reads as it did. -/
def floatJoinsUptoRow : OpenClaim := { program := "ytbejjlecpcphoaa", sum := "ddbbdd64e1ae7fe649c9c4691607135a943602bd99e3bacbaeb754c4756af28c", func := "tabard/tabardlaw3.FloatJoins", spec := "floatJoins", unfollowed := true, recurses := true, apart := false, narrowed := true }
def FloatJoinsUptoSaid : Prop := floatJoinsUptoRow.holds Try.pinned (OpenSpec.upto floatJoinsSpec)

/-- 'tabardlaw3.FloatNexts', WHERE WHAT IT READS IS OF BULK AT MOST 1048576: true; the input reads as it did. -/
def floatNextsUptoRow : OpenClaim := { program := "ytbejjlecpcphoaa", sum := "ddbbdd64e1ae7fe649c9c4691607135a943602bd99e3bacbaeb754c4756af28c", func := "tabard/tabardlaw3.FloatNexts", spec := "floatNexts", unfollowed := true, recurses := true, apart := false, narrowed := true }
def FloatNextsUptoSaid : Prop := floatNextsUptoRow.holds Try.pinned (OpenSpec.upto floatNextsSpec)

/-- 'tabardlaw3.FloatOrders', WHERE WHAT IT READS IS OF BULK AT MOST 1048576: true; the input reads as it did. -/
def floatOrdersUptoRow : OpenClaim := { program := "ytbejjlecpcphoaa", sum := "ddbbdd64e1ae7fe649c9c4691607135a943602bd99e3bacbaeb754c4756af28c", func := "tabard/tabardlaw3.FloatOrders", spec := "floatOrders", unfollowed := true, recurses := true, apart := false, narrowed := true }
def FloatOrdersUptoSaid : Prop := floatOrdersUptoRow.holds Try.pinned (OpenSpec.upto floatOrdersSpec)

/-- 'tabardlaw3.FloatParts', WHERE WHAT IT READS IS OF BULK AT MOST 1048576: true; the input reads as it did. -/
def floatPartsUptoRow : OpenClaim := { program := "ytbejjlecpcphoaa", sum := "ddbbdd64e1ae7fe649c9c4691607135a943602bd99e3bacbaeb754c4756af28c", func := "tabard/tabardlaw3.FloatParts", spec := "floatParts", unfollowed := true, recurses := true, apart := false, narrowed := true }
def FloatPartsUptoSaid : Prop := floatPartsUptoRow.holds Try.pinned (OpenSpec.upto floatPartsSpec)

/-- 'tabardlaw3.FloatRounds', WHERE WHAT IT READS IS OF BULK AT MOST 1048576: true; the input reads as it did. -/
def floatRoundsUptoRow : OpenClaim := { program := "ytbejjlecpcphoaa", sum := "ddbbdd64e1ae7fe649c9c4691607135a943602bd99e3bacbaeb754c4756af28c", func := "tabard/tabardlaw3.FloatRounds", spec := "floatRounds", unfollowed := true, recurses := true, apart := false, narrowed := true }
def FloatRoundsUptoSaid : Prop := floatRoundsUptoRow.holds Try.pinned (OpenSpec.upto floatRoundsSpec)

/-- 'tabardlaw3.FloatBack', WHERE WHAT IT READS IS OF BULK AT MOST 1048576: true; the input reads as it did. -/
def floatBackUptoRow : OpenClaim := { program := "ytbejjlecpcphoaa", sum := "ddbbdd64e1ae7fe649c9c4691607135a943602bd99e3bacbaeb754c4756af28c", func := "tabard/tabardlaw3.FloatBack", spec := "floatBack", unfollowed := true, recurses := true, apart := false, narrowed := true }
def FloatBackUptoSaid : Prop := floatBackUptoRow.holds Try.pinned (OpenSpec.upto floatBackSpec)

/-- 'tabardlaw2.WideSums', WHERE WHAT IT READS IS OF BULK AT MOST 1048576: true; the input reads as it did. -/
def wideSumsUptoRow : OpenClaim := { program := "ytbejjlecpcphoaa", sum := "ddbbdd64e1ae7fe649c9c4691607135a943602bd99e3bacbaeb754c4756af28c", func := "tabard/tabardlaw2.WideSums", spec := "wideSums", inPlace := ["math/bits.Add64", "math/bits.Sub64"], named := ["math/bits.divideError", "math/bits.overflowError"], apart := false, narrowed := true }
def WideSumsUptoSaid : Prop := wideSumsUptoRow.holds Try.pinned (OpenSpec.upto wideSumsSpec)

/-- 'tabardlaw2.WideShifts', WHERE WHAT IT READS IS OF BULK AT MOST 1048576: true; the input reads as it did. -/
def wideShiftsUptoRow : OpenClaim := { program := "ytbejjlecpcphoaa", sum := "ddbbdd64e1ae7fe649c9c4691607135a943602bd99e3bacbaeb754c4756af28c", func := "tabard/tabardlaw2.WideShifts", spec := "wideShifts", inPlace := ["math/bits.Add64", "math/bits.Sub64"], named := ["math/bits.divideError", "math/bits.overflowError"], apart := false, narrowed := true }
def WideShiftsUptoSaid : Prop := wideShiftsUptoRow.holds Try.pinned (OpenSpec.upto wideShiftsSpec)

/-- 'tabardlaw2.WideTimes', WHERE WHAT IT READS IS OF BULK AT MOST 1048576: true; the input reads as it did. -/
def wideTimesUptoRow : OpenClaim := { program := "ytbejjlecpcphoaa", sum := "ddbbdd64e1ae7fe649c9c4691607135a943602bd99e3bacbaeb754c4756af28c", func := "tabard/tabardlaw2.WideTimes", spec := "wideTimes", inPlace := ["math/bits.Add64", "math/bits.Sub64"], named := ["math/bits.divideError", "math/bits.overflowError"], apart := false, narrowed := true }
def WideTimesUptoSaid : Prop := wideTimesUptoRow.holds Try.pinned (OpenSpec.upto wideTimesSpec)

/-- 'tabardlaw2.WideBack', WHERE WHAT IT READS IS OF BULK AT MOST 1048576: true; the input reads as it did. -/
def wideBackUptoRow : OpenClaim := { program := "ytbejjlecpcphoaa", sum := "ddbbdd64e1ae7fe649c9c4691607135a943602bd99e3bacbaeb754c4756af28c", func := "tabard/tabardlaw2.WideBack", spec := "wideBack", inPlace := ["math/bits.Add64", "math/bits.Sub64"], named := ["math/bits.divideError", "math/bits.overflowError"], apart := false, narrowed := true }
def WideBackUptoSaid : Prop := wideBackUptoRow.holds Try.pinned (OpenSpec.upto wideBackSpec)

/-- 'tabardlaw2.WideRoots', WHERE WHAT IT READS IS OF BULK AT MOST 1048576: true; the input reads as it did. -/
def wideRootsUptoRow : OpenClaim := { program := "ytbejjlecpcphoaa", sum := "ddbbdd64e1ae7fe649c9c4691607135a943602bd99e3bacbaeb754c4756af28c", func := "tabard/tabardlaw2.WideRoots", spec := "wideRoots", inPlace := ["math/bits.Add64", "math/bits.Sub64"], named := ["math/bits.divideError", "math/bits.overflowError"], apart := false, narrowed := true }
def WideRootsUptoSaid : Prop := wideRootsUptoRow.holds Try.pinned (OpenSpec.upto wideRootsSpec)

/-- 'tabardlaw4.ArithAdds', WHERE WHAT IT READS IS OF BULK AT MOST 1048576: true; the input reads as it did. -/
def arithAddsUptoRow : OpenClaim := { program := "ytbejjlecpcphoaa", sum := "ddbbdd64e1ae7fe649c9c4691607135a943602bd99e3bacbaeb754c4756af28c", func := "tabard/tabardlaw4.ArithAdds", spec := "arithAdds", inPlace := ["math/bits.Add64", "math/bits.Sub64"], unfollowed := true, recurses := true, apart := false, narrowed := true }
def ArithAddsUptoSaid : Prop := arithAddsUptoRow.holds Try.pinned (OpenSpec.upto arithAddsSpec)

/-- 'tabardlaw4.ArithMuls', WHERE WHAT IT READS IS OF BULK AT MOST 1048576: true; the input reads as it did. -/
def arithMulsUptoRow : OpenClaim := { program := "ytbejjlecpcphoaa", sum := "ddbbdd64e1ae7fe649c9c4691607135a943602bd99e3bacbaeb754c4756af28c", func := "tabard/tabardlaw4.ArithMuls", spec := "arithMuls", inPlace := ["math/bits.Add64", "math/bits.Sub64"], unfollowed := true, recurses := true, apart := false, narrowed := true }
def ArithMulsUptoSaid : Prop := arithMulsUptoRow.holds Try.pinned (OpenSpec.upto arithMulsSpec)

/-- 'tabardlaw4.ArithSums', WHERE WHAT IT READS IS OF BULK AT MOST 1048576: true; the input reads as it did. -/
def arithSumsUptoRow : OpenClaim := { program := "ytbejjlecpcphoaa", sum := "ddbbdd64e1ae7fe649c9c4691607135a943602bd99e3bacbaeb754c4756af28c", func := "tabard/tabardlaw4.ArithSums", spec := "arithSums", inPlace := ["math/bits.Add64", "math/bits.Sub64"], unfollowed := true, recurses := true, apart := false, narrowed := true }
def ArithSumsUptoSaid : Prop := arithSumsUptoRow.holds Try.pinned (OpenSpec.upto arithSumsSpec)

/-- 'tabardlaw4.ArithTurns', WHERE WHAT IT READS IS OF BULK AT MOST 1048576: true; the input reads as it did. -/
def arithTurnsUptoRow : OpenClaim := { program := "ytbejjlecpcphoaa", sum := "ddbbdd64e1ae7fe649c9c4691607135a943602bd99e3bacbaeb754c4756af28c", func := "tabard/tabardlaw4.ArithTurns", spec := "arithTurns", inPlace := ["math/bits.Add64", "math/bits.Sub64"], unfollowed := true, recurses := true, apart := false, narrowed := true }
def ArithTurnsUptoSaid : Prop := arithTurnsUptoRow.holds Try.pinned (OpenSpec.upto arithTurnsSpec)

/-- 'tabardlaw4.ArithPlain', WHERE WHAT IT READS IS OF BULK AT MOST 1048576: true; the input reads as it did. -/
def arithPlainUptoRow : OpenClaim := { program := "ytbejjlecpcphoaa", sum := "ddbbdd64e1ae7fe649c9c4691607135a943602bd99e3bacbaeb754c4756af28c", func := "tabard/tabardlaw4.ArithPlain", spec := "arithPlain", inPlace := ["math/bits.Add64", "math/bits.Sub64"], unfollowed := true, recurses := true, apart := false, narrowed := true }
def ArithPlainUptoSaid : Prop := arithPlainUptoRow.holds Try.pinned (OpenSpec.upto arithPlainSpec)

end Rows
end Go.Proofs.Ytbejjlecpcphoaa
