-- Written by a program of this session's (a turned print), not by hand.
import Derived.Test.YtbejjlecpcphoaaPx0
import Derived.Test.YtbejjlecpcphoaaPx3
import Derived.Test.YtbejjlecpcphoaaPx11
import Derived.Test.YtbejjlecpcphoaaPx15
import Derived.Test.YtbejjlecpcphoaaPx18
import Derived.Test.YtbejjlecpcphoaaPx28
import Derived.Test.YtbejjlecpcphoaaPx32
import Derived.Test.YtbejjlecpcphoaaPx33
import Derived.Test.YtbejjlecpcphoaaPx34
import Derived.Test.YtbejjlecpcphoaaPx35
namespace Go.Proofs.Ytbejjlecpcphoaa.P
open Go.RowKit Go.Proofs.YtbejjlecpcphoaaW.PrintWords Go.Proofs.YtbejjlecpcphoaaW.PrintLast Go.Proofs.YtbejjlecpcphoaaW.PrintMore
attribute [local go_sem] max2_int min2_int max_two min_two max_three min_three max_four min_four   -- for this text's walks alone
set_option linter.unusedVariables false
set_option linter.unusedSimpArgs false

/-! ### tabardlaw2_WideSums: function 9 -/
def tabardlaw2_WideSums.f (k : Nat) (a0_0 : Int) (a0_1 : Int) (a1_0 : Int) (a1_1 : Int) : Option (Bool) := (tabardlaw2_shown.f k).bind fun t510 => (if t510 = true then ((tabardlaw2_nat.f k a0_0 a0_1).bind fun t511 => ((tabardlaw2_nat.f k a1_0 a1_1).bind fun t514 => ((wide_Add.f a0_0 a0_1 a1_0 a1_1).bind fun bt517 => ((tabardref2_Add.f k t511 t514).bind fun bt521 => ((wide_Sub.f a0_0 a0_1 a1_0 a1_1).bind fun bt525 => ((tabardref2_Sub.f k t511 t514).bind fun bt529 => ((tabardlaw2_is.f k bt517.1 bt517.2.1 bt521.1).bind fun t533 => ((tabardlaw2_is.f k bt525.1 bt525.2.1 bt529.1).bind fun t534 => ((wide_Mul.f a0_0 a1_1).bind fun bt535 => ((tabardref2_Nat.f k 0 0 a0_0).bind fun t537 => ((tabardref2_Nat.f k 0 0 a1_1).bind fun t540 => ((tabardref1_Times.f k t537 t540).bind fun t543 => ((tabardlaw2_is.f k bt535.1 bt535.2 t543).bind fun t546 => ((wide_Cmp.f a0_0 a0_1 a1_0 a1_1).bind fun t547 => ((tabardref1_Cmp.f k t511 t514).bind fun t548 => (if t547 = t548 then (if t533 = true then (if (bt517.2.2 == bt521.2) = true then (if t534 = true then (if (bt525.2.2 == bt529.2) = true then (if t546 = true then ((wide_Len.f k a0_0 a0_1).bind fun t549 => ((tabardref1_Len.f k t511).bind fun t550 => (some (t549 == t550)))) else (none)) else (none)) else (none)) else (none)) else (none)) else (none))))))))))))))))) else (none))
theorem tabardlaw2_WideSums.mono : ∀ a0 a1 a2 a3 k, LeO (tabardlaw2_WideSums.f k a0 a1 a2 a3) (tabardlaw2_WideSums.f (k + 1) a0 a1 a2 a3) := by
 intro a0 a1 a2 a3 k
 unfold tabardlaw2_WideSums.f
 repeat' first
   | (with_reducible exact tabardlaw2_is.mono _ _ _ _)
   | (with_reducible exact tabardlaw2_nat.mono _ _ _)
   | (with_reducible exact tabardlaw2_shown.mono _)
   | (with_reducible exact tabardref1_Cmp.mono _ _ _)
   | (with_reducible exact tabardref1_Len.mono _ _)
   | (with_reducible exact tabardref1_Times.mono _ _ _)
   | (with_reducible exact tabardref2_Add.mono _ _ _)
   | (with_reducible exact tabardref2_Nat.mono _ _ _ _)
   | (with_reducible exact tabardref2_Sub.mono _ _ _)
   | (with_reducible exact wide_Len.mono _ _ _)
   | (with_reducible exact LeO.refl _)
   | (with_reducible exact LeO.none _)
   | (with_reducible refine LeO.ite ?_ ?_)
   | (with_reducible refine LeO.bind ?_ (fun _ => ?_))
   | exact tabardlaw2_is.mono _ _ _ _
   | exact tabardlaw2_nat.mono _ _ _
   | exact tabardlaw2_shown.mono _
   | exact tabardref1_Cmp.mono _ _ _
   | exact tabardref1_Len.mono _ _
   | exact tabardref1_Times.mono _ _ _
   | exact tabardref2_Add.mono _ _ _
   | exact tabardref2_Nat.mono _ _ _ _
   | exact tabardref2_Sub.mono _ _ _
   | exact wide_Len.mono _ _ _
   | exact LeO.none _
   | refine LeO.ite ?_ ?_
   | refine LeO.bind ?_ (fun _ => ?_)
def tabardlaw2_WideSums.T12 : Bool × List (List Nat × List Nat) := (true, [([], []), ([0], [0]), ([], []), ([2], [2]), ([1, 3], [1, 3]), ([], []), ([5], [5]), ([6, 4], [6]), ([], []), ([8], [8]), ([9, 7], [9]), ([7, 10, 10], [7, 10]), ([4, 11, 11], [4, 11]), ([12, 12, 0, 1, 2, 3, 4, 5, 6, 7, 8, 9, 10, 11, 12], [12])])
def tabardlaw2_WideSums.B12 : List Nat := [0, 1, 0, 4, 15, 0, 32, 127, 0, 256, 1023, 2047, 4095, 8191]
theorem tabardlaw2_WideSums.tab12 : rtab .any (opsOf Try.f9 12) = tabardlaw2_WideSums.T12 := by kernel_rfl
theorem tabardlaw2_WideSums.bits12 : waitsOk tabardlaw2_WideSums.T12.2 tabardlaw2_WideSums.B12 = true := by kernel_rfl
set_option maxHeartbeats 8000000 in
set_option maxRecDepth 100000 in
theorem tabardlaw2_WideSums.calls (k : Nat) (a0_0 : Int) (a0_1 : Int) (a1_0 : Int) (a1_1 : Int) (r : Bool) (w : World) (h : tabardlaw2_WideSums.f k a0_0 a0_1 a1_0 a1_1 = some r) :
  Calls Try.prog 9 #[.agg #[.int .u64 a0_0, .int .u64 a0_1], .agg #[.int .u64 a1_0, .int .u64 a1_1]] w fun e w' => e = .returned (.bool r) ∧ Below w.heap.size w w' := by
 have hu24 := Try.underlying24
 have HB := zA (Below.refl w.heap.size w)
 have H : ((tabardlaw2_shown.f k).bind fun t510 => (if t510 = true then ((tabardlaw2_nat.f k a0_0 a0_1).bind fun t511 => ((tabardlaw2_nat.f k a1_0 a1_1).bind fun t514 => ((wide_Add.f a0_0 a0_1 a1_0 a1_1).bind fun bt517 => ((tabardref2_Add.f k t511 t514).bind fun bt521 => ((wide_Sub.f a0_0 a0_1 a1_0 a1_1).bind fun bt525 => ((tabardref2_Sub.f k t511 t514).bind fun bt529 => ((tabardlaw2_is.f k bt517.1 bt517.2.1 bt521.1).bind fun t533 => ((tabardlaw2_is.f k bt525.1 bt525.2.1 bt529.1).bind fun t534 => ((wide_Mul.f a0_0 a1_1).bind fun bt535 => ((tabardref2_Nat.f k 0 0 a0_0).bind fun t537 => ((tabardref2_Nat.f k 0 0 a1_1).bind fun t540 => ((tabardref1_Times.f k t537 t540).bind fun t543 => ((tabardlaw2_is.f k bt535.1 bt535.2 t543).bind fun t546 => ((wide_Cmp.f a0_0 a0_1 a1_0 a1_1).bind fun t547 => ((tabardref1_Cmp.f k t511 t514).bind fun t548 => (if t547 = t548 then (if t533 = true then (if (bt517.2.2 == bt521.2) = true then (if t534 = true then (if (bt525.2.2 == bt529.2) = true then (if t546 = true then ((wide_Len.f k a0_0 a0_1).bind fun t549 => ((tabardref1_Len.f k t511).bind fun t550 => (some (t549 == t550)))) else (none)) else (none)) else (none)) else (none)) else (none)) else (none))))))))))))))))) else (none))) = some r := h
 clear h
 replace H := Option.bind_eq_some_iff.mp H
 obtain ⟨t510, A30, H⟩ := H
 replace H : (if t510 = true then ((tabardlaw2_nat.f k a0_0 a0_1).bind fun t511 => ((tabardlaw2_nat.f k a1_0 a1_1).bind fun t514 => ((wide_Add.f a0_0 a0_1 a1_0 a1_1).bind fun bt517 => ((tabardref2_Add.f k t511 t514).bind fun bt521 => ((wide_Sub.f a0_0 a0_1 a1_0 a1_1).bind fun bt525 => ((tabardref2_Sub.f k t511 t514).bind fun bt529 => ((tabardlaw2_is.f k bt517.1 bt517.2.1 bt521.1).bind fun t533 => ((tabardlaw2_is.f k bt525.1 bt525.2.1 bt529.1).bind fun t534 => ((wide_Mul.f a0_0 a1_1).bind fun bt535 => ((tabardref2_Nat.f k 0 0 a0_0).bind fun t537 => ((tabardref2_Nat.f k 0 0 a1_1).bind fun t540 => ((tabardref1_Times.f k t537 t540).bind fun t543 => ((tabardlaw2_is.f k bt535.1 bt535.2 t543).bind fun t546 => ((wide_Cmp.f a0_0 a0_1 a1_0 a1_1).bind fun t547 => ((tabardref1_Cmp.f k t511 t514).bind fun t548 => (if t547 = t548 then (if t533 = true then (if (bt517.2.2 == bt521.2) = true then (if t534 = true then (if (bt525.2.2 == bt529.2) = true then (if t546 = true then ((wide_Len.f k a0_0 a0_1).bind fun t549 => ((tabardref1_Len.f k t511).bind fun t550 => (some (t549 == t550)))) else (none)) else (none)) else (none)) else (none)) else (none)) else (none))))))))))))))))) else (none)) = some r := H
 have A3 := zA A30
 clear A30
 by_cases c4 : t510 = true
 ·
  subst c4
  have H1 : ((tabardlaw2_nat.f k a0_0 a0_1).bind fun t511 => ((tabardlaw2_nat.f k a1_0 a1_1).bind fun t514 => ((wide_Add.f a0_0 a0_1 a1_0 a1_1).bind fun bt517 => ((tabardref2_Add.f k t511 t514).bind fun bt521 => ((wide_Sub.f a0_0 a0_1 a1_0 a1_1).bind fun bt525 => ((tabardref2_Sub.f k t511 t514).bind fun bt529 => ((tabardlaw2_is.f k bt517.1 bt517.2.1 bt521.1).bind fun t533 => ((tabardlaw2_is.f k bt525.1 bt525.2.1 bt529.1).bind fun t534 => ((wide_Mul.f a0_0 a1_1).bind fun bt535 => ((tabardref2_Nat.f k 0 0 a0_0).bind fun t537 => ((tabardref2_Nat.f k 0 0 a1_1).bind fun t540 => ((tabardref1_Times.f k t537 t540).bind fun t543 => ((tabardlaw2_is.f k bt535.1 bt535.2 t543).bind fun t546 => ((wide_Cmp.f a0_0 a0_1 a1_0 a1_1).bind fun t547 => ((tabardref1_Cmp.f k t511 t514).bind fun t548 => (if t547 = t548 then (if t533 = true then (if (bt517.2.2 == bt521.2) = true then (if t534 = true then (if (bt525.2.2 == bt529.2) = true then (if t546 = true then ((wide_Len.f k a0_0 a0_1).bind fun t549 => ((tabardref1_Len.f k t511).bind fun t550 => (some (t549 == t550)))) else (none)) else (none)) else (none)) else (none)) else (none)) else (none))))))))))))))))) = some r := by rw [if_pos rfl] at H; exact H
  clear H
  have H := H1
  clear H1
  replace H := Option.bind_eq_some_iff.mp H
  obtain ⟨t511, A50, H⟩ := H
  replace H : ((tabardlaw2_nat.f k a1_0 a1_1).bind fun t514 => ((wide_Add.f a0_0 a0_1 a1_0 a1_1).bind fun bt517 => ((tabardref2_Add.f k t511 t514).bind fun bt521 => ((wide_Sub.f a0_0 a0_1 a1_0 a1_1).bind fun bt525 => ((tabardref2_Sub.f k t511 t514).bind fun bt529 => ((tabardlaw2_is.f k bt517.1 bt517.2.1 bt521.1).bind fun t533 => ((tabardlaw2_is.f k bt525.1 bt525.2.1 bt529.1).bind fun t534 => ((wide_Mul.f a0_0 a1_1).bind fun bt535 => ((tabardref2_Nat.f k 0 0 a0_0).bind fun t537 => ((tabardref2_Nat.f k 0 0 a1_1).bind fun t540 => ((tabardref1_Times.f k t537 t540).bind fun t543 => ((tabardlaw2_is.f k bt535.1 bt535.2 t543).bind fun t546 => ((wide_Cmp.f a0_0 a0_1 a1_0 a1_1).bind fun t547 => ((tabardref1_Cmp.f k t511 t514).bind fun t548 => (if t547 = t548 then (if t533 = true then (if (bt517.2.2 == bt521.2) = true then (if t534 = true then (if (bt525.2.2 == bt529.2) = true then (if t546 = true then ((wide_Len.f k a0_0 a0_1).bind fun t549 => ((tabardref1_Len.f k t511).bind fun t550 => (some (t549 == t550)))) else (none)) else (none)) else (none)) else (none)) else (none)) else (none)))))))))))))))) = some r := H
  have A5 := zA A50
  clear A50
  replace H := Option.bind_eq_some_iff.mp H
  obtain ⟨t514, A60, H⟩ := H
  replace H : ((wide_Add.f a0_0 a0_1 a1_0 a1_1).bind fun bt517 => ((tabardref2_Add.f k t511 t514).bind fun bt521 => ((wide_Sub.f a0_0 a0_1 a1_0 a1_1).bind fun bt525 => ((tabardref2_Sub.f k t511 t514).bind fun bt529 => ((tabardlaw2_is.f k bt517.1 bt517.2.1 bt521.1).bind fun t533 => ((tabardlaw2_is.f k bt525.1 bt525.2.1 bt529.1).bind fun t534 => ((wide_Mul.f a0_0 a1_1).bind fun bt535 => ((tabardref2_Nat.f k 0 0 a0_0).bind fun t537 => ((tabardref2_Nat.f k 0 0 a1_1).bind fun t540 => ((tabardref1_Times.f k t537 t540).bind fun t543 => ((tabardlaw2_is.f k bt535.1 bt535.2 t543).bind fun t546 => ((wide_Cmp.f a0_0 a0_1 a1_0 a1_1).bind fun t547 => ((tabardref1_Cmp.f k t511 t514).bind fun t548 => (if t547 = t548 then (if t533 = true then (if (bt517.2.2 == bt521.2) = true then (if t534 = true then (if (bt525.2.2 == bt529.2) = true then (if t546 = true then ((wide_Len.f k a0_0 a0_1).bind fun t549 => ((tabardref1_Len.f k t511).bind fun t550 => (some (t549 == t550)))) else (none)) else (none)) else (none)) else (none)) else (none)) else (none))))))))))))))) = some r := H
  have A6 := zA A60
  clear A60
  replace H := Option.bind_eq_some_iff.mp H
  obtain ⟨⟨t517, t518, t519⟩, A70, H⟩ := H
  replace H : ((tabardref2_Add.f k t511 t514).bind fun bt521 => ((wide_Sub.f a0_0 a0_1 a1_0 a1_1).bind fun bt525 => ((tabardref2_Sub.f k t511 t514).bind fun bt529 => ((tabardlaw2_is.f k t517 t518 bt521.1).bind fun t533 => ((tabardlaw2_is.f k bt525.1 bt525.2.1 bt529.1).bind fun t534 => ((wide_Mul.f a0_0 a1_1).bind fun bt535 => ((tabardref2_Nat.f k 0 0 a0_0).bind fun t537 => ((tabardref2_Nat.f k 0 0 a1_1).bind fun t540 => ((tabardref1_Times.f k t537 t540).bind fun t543 => ((tabardlaw2_is.f k bt535.1 bt535.2 t543).bind fun t546 => ((wide_Cmp.f a0_0 a0_1 a1_0 a1_1).bind fun t547 => ((tabardref1_Cmp.f k t511 t514).bind fun t548 => (if t547 = t548 then (if t533 = true then (if (t519 == bt521.2) = true then (if t534 = true then (if (bt525.2.2 == bt529.2) = true then (if t546 = true then ((wide_Len.f k a0_0 a0_1).bind fun t549 => ((tabardref1_Len.f k t511).bind fun t550 => (some (t549 == t550)))) else (none)) else (none)) else (none)) else (none)) else (none)) else (none)))))))))))))) = some r := H
  have A7 := zA A70
  clear A70
  replace H := Option.bind_eq_some_iff.mp H
  obtain ⟨⟨t521, t522⟩, A80, H⟩ := H
  replace H : ((wide_Sub.f a0_0 a0_1 a1_0 a1_1).bind fun bt525 => ((tabardref2_Sub.f k t511 t514).bind fun bt529 => ((tabardlaw2_is.f k t517 t518 t521).bind fun t533 => ((tabardlaw2_is.f k bt525.1 bt525.2.1 bt529.1).bind fun t534 => ((wide_Mul.f a0_0 a1_1).bind fun bt535 => ((tabardref2_Nat.f k 0 0 a0_0).bind fun t537 => ((tabardref2_Nat.f k 0 0 a1_1).bind fun t540 => ((tabardref1_Times.f k t537 t540).bind fun t543 => ((tabardlaw2_is.f k bt535.1 bt535.2 t543).bind fun t546 => ((wide_Cmp.f a0_0 a0_1 a1_0 a1_1).bind fun t547 => ((tabardref1_Cmp.f k t511 t514).bind fun t548 => (if t547 = t548 then (if t533 = true then (if (t519 == t522) = true then (if t534 = true then (if (bt525.2.2 == bt529.2) = true then (if t546 = true then ((wide_Len.f k a0_0 a0_1).bind fun t549 => ((tabardref1_Len.f k t511).bind fun t550 => (some (t549 == t550)))) else (none)) else (none)) else (none)) else (none)) else (none)) else (none))))))))))))) = some r := H
  have A8 := zA A80
  clear A80
  replace H := Option.bind_eq_some_iff.mp H
  obtain ⟨⟨t525, t526, t527⟩, A90, H⟩ := H
  replace H : ((tabardref2_Sub.f k t511 t514).bind fun bt529 => ((tabardlaw2_is.f k t517 t518 t521).bind fun t533 => ((tabardlaw2_is.f k t525 t526 bt529.1).bind fun t534 => ((wide_Mul.f a0_0 a1_1).bind fun bt535 => ((tabardref2_Nat.f k 0 0 a0_0).bind fun t537 => ((tabardref2_Nat.f k 0 0 a1_1).bind fun t540 => ((tabardref1_Times.f k t537 t540).bind fun t543 => ((tabardlaw2_is.f k bt535.1 bt535.2 t543).bind fun t546 => ((wide_Cmp.f a0_0 a0_1 a1_0 a1_1).bind fun t547 => ((tabardref1_Cmp.f k t511 t514).bind fun t548 => (if t547 = t548 then (if t533 = true then (if (t519 == t522) = true then (if t534 = true then (if (t527 == bt529.2) = true then (if t546 = true then ((wide_Len.f k a0_0 a0_1).bind fun t549 => ((tabardref1_Len.f k t511).bind fun t550 => (some (t549 == t550)))) else (none)) else (none)) else (none)) else (none)) else (none)) else (none)))))))))))) = some r := H
  have A9 := zA A90
  clear A90
  replace H := Option.bind_eq_some_iff.mp H
  obtain ⟨⟨t529, t530⟩, A100, H⟩ := H
  replace H : ((tabardlaw2_is.f k t517 t518 t521).bind fun t533 => ((tabardlaw2_is.f k t525 t526 t529).bind fun t534 => ((wide_Mul.f a0_0 a1_1).bind fun bt535 => ((tabardref2_Nat.f k 0 0 a0_0).bind fun t537 => ((tabardref2_Nat.f k 0 0 a1_1).bind fun t540 => ((tabardref1_Times.f k t537 t540).bind fun t543 => ((tabardlaw2_is.f k bt535.1 bt535.2 t543).bind fun t546 => ((wide_Cmp.f a0_0 a0_1 a1_0 a1_1).bind fun t547 => ((tabardref1_Cmp.f k t511 t514).bind fun t548 => (if t547 = t548 then (if t533 = true then (if (t519 == t522) = true then (if t534 = true then (if (t527 == t530) = true then (if t546 = true then ((wide_Len.f k a0_0 a0_1).bind fun t549 => ((tabardref1_Len.f k t511).bind fun t550 => (some (t549 == t550)))) else (none)) else (none)) else (none)) else (none)) else (none)) else (none))))))))))) = some r := H
  have A10 := zA A100
  clear A100
  replace H := Option.bind_eq_some_iff.mp H
  obtain ⟨t533, A110, H⟩ := H
  replace H : ((tabardlaw2_is.f k t525 t526 t529).bind fun t534 => ((wide_Mul.f a0_0 a1_1).bind fun bt535 => ((tabardref2_Nat.f k 0 0 a0_0).bind fun t537 => ((tabardref2_Nat.f k 0 0 a1_1).bind fun t540 => ((tabardref1_Times.f k t537 t540).bind fun t543 => ((tabardlaw2_is.f k bt535.1 bt535.2 t543).bind fun t546 => ((wide_Cmp.f a0_0 a0_1 a1_0 a1_1).bind fun t547 => ((tabardref1_Cmp.f k t511 t514).bind fun t548 => (if t547 = t548 then (if t533 = true then (if (t519 == t522) = true then (if t534 = true then (if (t527 == t530) = true then (if t546 = true then ((wide_Len.f k a0_0 a0_1).bind fun t549 => ((tabardref1_Len.f k t511).bind fun t550 => (some (t549 == t550)))) else (none)) else (none)) else (none)) else (none)) else (none)) else (none)))))))))) = some r := H
  have A11 := zA A110
  clear A110
  replace H := Option.bind_eq_some_iff.mp H
  obtain ⟨t534, A120, H⟩ := H
  replace H : ((wide_Mul.f a0_0 a1_1).bind fun bt535 => ((tabardref2_Nat.f k 0 0 a0_0).bind fun t537 => ((tabardref2_Nat.f k 0 0 a1_1).bind fun t540 => ((tabardref1_Times.f k t537 t540).bind fun t543 => ((tabardlaw2_is.f k bt535.1 bt535.2 t543).bind fun t546 => ((wide_Cmp.f a0_0 a0_1 a1_0 a1_1).bind fun t547 => ((tabardref1_Cmp.f k t511 t514).bind fun t548 => (if t547 = t548 then (if t533 = true then (if (t519 == t522) = true then (if t534 = true then (if (t527 == t530) = true then (if t546 = true then ((wide_Len.f k a0_0 a0_1).bind fun t549 => ((tabardref1_Len.f k t511).bind fun t550 => (some (t549 == t550)))) else (none)) else (none)) else (none)) else (none)) else (none)) else (none))))))))) = some r := H
  have A12 := zA A120
  clear A120
  replace H := Option.bind_eq_some_iff.mp H
  obtain ⟨⟨t535, t536⟩, A130, H⟩ := H
  replace H : ((tabardref2_Nat.f k 0 0 a0_0).bind fun t537 => ((tabardref2_Nat.f k 0 0 a1_1).bind fun t540 => ((tabardref1_Times.f k t537 t540).bind fun t543 => ((tabardlaw2_is.f k t535 t536 t543).bind fun t546 => ((wide_Cmp.f a0_0 a0_1 a1_0 a1_1).bind fun t547 => ((tabardref1_Cmp.f k t511 t514).bind fun t548 => (if t547 = t548 then (if t533 = true then (if (t519 == t522) = true then (if t534 = true then (if (t527 == t530) = true then (if t546 = true then ((wide_Len.f k a0_0 a0_1).bind fun t549 => ((tabardref1_Len.f k t511).bind fun t550 => (some (t549 == t550)))) else (none)) else (none)) else (none)) else (none)) else (none)) else (none)))))))) = some r := H
  have A13 := zA A130
  clear A130
  replace H := Option.bind_eq_some_iff.mp H
  obtain ⟨t537, A140, H⟩ := H
  replace H : ((tabardref2_Nat.f k 0 0 a1_1).bind fun t540 => ((tabardref1_Times.f k t537 t540).bind fun t543 => ((tabardlaw2_is.f k t535 t536 t543).bind fun t546 => ((wide_Cmp.f a0_0 a0_1 a1_0 a1_1).bind fun t547 => ((tabardref1_Cmp.f k t511 t514).bind fun t548 => (if t547 = t548 then (if t533 = true then (if (t519 == t522) = true then (if t534 = true then (if (t527 == t530) = true then (if t546 = true then ((wide_Len.f k a0_0 a0_1).bind fun t549 => ((tabardref1_Len.f k t511).bind fun t550 => (some (t549 == t550)))) else (none)) else (none)) else (none)) else (none)) else (none)) else (none))))))) = some r := H
  have A14 := zA A140
  clear A140
  replace H := Option.bind_eq_some_iff.mp H
  obtain ⟨t540, A150, H⟩ := H
  replace H : ((tabardref1_Times.f k t537 t540).bind fun t543 => ((tabardlaw2_is.f k t535 t536 t543).bind fun t546 => ((wide_Cmp.f a0_0 a0_1 a1_0 a1_1).bind fun t547 => ((tabardref1_Cmp.f k t511 t514).bind fun t548 => (if t547 = t548 then (if t533 = true then (if (t519 == t522) = true then (if t534 = true then (if (t527 == t530) = true then (if t546 = true then ((wide_Len.f k a0_0 a0_1).bind fun t549 => ((tabardref1_Len.f k t511).bind fun t550 => (some (t549 == t550)))) else (none)) else (none)) else (none)) else (none)) else (none)) else (none)))))) = some r := H
  have A15 := zA A150
  clear A150
  replace H := Option.bind_eq_some_iff.mp H
  obtain ⟨t543, A160, H⟩ := H
  replace H : ((tabardlaw2_is.f k t535 t536 t543).bind fun t546 => ((wide_Cmp.f a0_0 a0_1 a1_0 a1_1).bind fun t547 => ((tabardref1_Cmp.f k t511 t514).bind fun t548 => (if t547 = t548 then (if t533 = true then (if (t519 == t522) = true then (if t534 = true then (if (t527 == t530) = true then (if t546 = true then ((wide_Len.f k a0_0 a0_1).bind fun t549 => ((tabardref1_Len.f k t511).bind fun t550 => (some (t549 == t550)))) else (none)) else (none)) else (none)) else (none)) else (none)) else (none))))) = some r := H
  have A16 := zA A160
  clear A160
  replace H := Option.bind_eq_some_iff.mp H
  obtain ⟨t546, A170, H⟩ := H
  replace H : ((wide_Cmp.f a0_0 a0_1 a1_0 a1_1).bind fun t547 => ((tabardref1_Cmp.f k t511 t514).bind fun t548 => (if t547 = t548 then (if t533 = true then (if (t519 == t522) = true then (if t534 = true then (if (t527 == t530) = true then (if t546 = true then ((wide_Len.f k a0_0 a0_1).bind fun t549 => ((tabardref1_Len.f k t511).bind fun t550 => (some (t549 == t550)))) else (none)) else (none)) else (none)) else (none)) else (none)) else (none)))) = some r := H
  have A17 := zA A170
  clear A170
  replace H := Option.bind_eq_some_iff.mp H
  obtain ⟨t547, A180, H⟩ := H
  replace H : ((tabardref1_Cmp.f k t511 t514).bind fun t548 => (if t547 = t548 then (if t533 = true then (if (t519 == t522) = true then (if t534 = true then (if (t527 == t530) = true then (if t546 = true then ((wide_Len.f k a0_0 a0_1).bind fun t549 => ((tabardref1_Len.f k t511).bind fun t550 => (some (t549 == t550)))) else (none)) else (none)) else (none)) else (none)) else (none)) else (none))) = some r := H
  have A18 := zA A180
  clear A180
  replace H := Option.bind_eq_some_iff.mp H
  obtain ⟨t548, A190, H⟩ := H
  replace H : (if t547 = t548 then (if t533 = true then (if (t519 == t522) = true then (if t534 = true then (if (t527 == t530) = true then (if t546 = true then ((wide_Len.f k a0_0 a0_1).bind fun t549 => ((tabardref1_Len.f k t511).bind fun t550 => (some (t549 == t550)))) else (none)) else (none)) else (none)) else (none)) else (none)) else (none)) = some r := H
  have A19 := zA A190
  clear A190
  by_cases c20 : t547 = t548
  ·
   rw [if_pos c20] at H
   have c20b0 : (t547 == t548) = true := beq_iff_eq.mpr c20
   have c20b1 : (t547 != t548) = false := bne_eq_false_iff_eq.mpr c20
   clear c20
   by_cases c21 : t533 = true
   ·
    subst c21
    have H1 : (if (t519 == t522) = true then (if t534 = true then (if (t527 == t530) = true then (if t546 = true then ((wide_Len.f k a0_0 a0_1).bind fun t549 => ((tabardref1_Len.f k t511).bind fun t550 => (some (t549 == t550)))) else (none)) else (none)) else (none)) else (none)) = some r := by rw [if_pos rfl] at H; exact H
    clear H
    have H := H1
    clear H1
    by_cases c22 : (t519 == t522) = true
    ·
     rw [if_pos c22] at H
     have c22b0 : (t519 == t522) = true := c22
     (try (have c22b1 : decide (t519 = t522) = true := by simpa using c22))
     (try (have c22b2 : (t519 == t522) = true := by simpa using c22))
     clear c22
     by_cases c23 : t534 = true
     ·
      subst c23
      have H1 : (if (t527 == t530) = true then (if t546 = true then ((wide_Len.f k a0_0 a0_1).bind fun t549 => ((tabardref1_Len.f k t511).bind fun t550 => (some (t549 == t550)))) else (none)) else (none)) = some r := by rw [if_pos rfl] at H; exact H
      clear H
      have H := H1
      clear H1
      by_cases c24 : (t527 == t530) = true
      ·
       rw [if_pos c24] at H
       have c24b0 : (t527 == t530) = true := c24
       (try (have c24b1 : decide (t527 = t530) = true := by simpa using c24))
       (try (have c24b2 : (t527 == t530) = true := by simpa using c24))
       clear c24
       by_cases c25 : t546 = true
       ·
        subst c25
        have H1 : ((wide_Len.f k a0_0 a0_1).bind fun t549 => ((tabardref1_Len.f k t511).bind fun t550 => (some (t549 == t550)))) = some r := by rw [if_pos rfl] at H; exact H
        clear H
        have H := H1
        clear H1
        replace H := Option.bind_eq_some_iff.mp H
        obtain ⟨t549, A260, H⟩ := H
        replace H : ((tabardref1_Len.f k t511).bind fun t550 => (some (t549 == t550))) = some r := H
        have A26 := zA A260
        clear A260
        replace H := Option.bind_eq_some_iff.mp H
        obtain ⟨t550, A270, H⟩ := H
        replace H : (some (t549 == t550)) = some r := H
        have A27 := zA A270
        clear A270
        obtain rfl := Option.some.inj H
        go_enter Try.func9, Try.ntmps9
        try go_wp2_with (first | ((with_reducible refine zpq (N := 2) rfl ?_); refine zqq ?hg (N := 2) ?hd (cs := #[.int .u64 a0_0, .int .u64 a0_1]) (t := 24) ?hr ?_; (case hd => rfl); (case hg => rfl); (case hr => first | (go_simp; done) | (go_simp; rfl)); intro gb508 hg w28 hbox hb; have n0_ := zA (zeq (by repeat (first | (with_reducible first | exact HB.out | apply zaq | apply zbq | apply zcq) | exact HB.out)) hb); have n1_ := zA (hbox); have n2_ := zA ((by rw [hg]; exact (zfq (by repeat (first | (with_reducible first | exact HB.out | apply zaq | apply zbq | apply zcq) | exact HB.out))) : w.heap.size ≤ gb508)); have n3_ := zA ((by rw [hg]; exact (zfq (by repeat (first | (with_reducible first | exact HB.out | apply zaq | apply zbq | apply zcq) | exact HB.out))) : w.heap.size ≤ gb508)); clear HB; have HB := n0_; have BK508 := n1_; have GW508 := n2_; have GE508 := n3_; clear n0_ n1_ n2_ n3_; clear hb hbox hg) | ((with_reducible refine zpq (N := 3) rfl ?_); refine zqq ?hg (N := 3) ?hd (cs := #[.int .u64 a1_0, .int .u64 a1_1]) (t := 24) ?hr ?_; (case hd => rfl); (case hg => rfl); (case hr => first | (go_simp; done) | (go_simp; rfl)); intro gb509 hg w29 hbox hb; have n0_ := zA (zlq (g := gb508) (o := .cells #[.int .u64 a0_0, .int .u64 a0_1] 24 (0, 0)) (by (with_reducible repeat (first | refine zgq ?_ _ | refine zhq ?_ | refine ziq ?_ _)); exact BK508.out) hb); have n1_ := zA (zeq (by repeat (first | (with_reducible first | exact HB.out | apply zaq | apply zbq | apply zcq | refine zdq ?_ GE508.out) | exact HB.out)) hb); have n2_ := zA (hbox); have n3_ := zA ((by rw [hg]; exact (zfq (by repeat (first | (with_reducible first | exact HB.out | apply zaq | apply zbq | apply zcq | refine zdq ?_ GE508.out) | exact HB.out))) : w.heap.size ≤ gb509)); have n4_ := zA ((by rw [hg]; exact (zfq (by repeat (first | (with_reducible first | exact HB.out | apply zaq | apply zbq | apply zcq | refine zdq ?_ GE508.out) | exact HB.out))) : w.heap.size ≤ gb509)); have n5_ := zA ((by rw [hg]; exact Nat.ne_of_lt (blk_lt (g := gb508) (o := .cells #[.int .u64 a0_0, .int .u64 a0_1] 24 (0, 0)) (by (with_reducible repeat (first | refine zgq ?_ _ | refine zhq ?_ | refine ziq ?_ _)); exact BK508.out)) : gb508 ≠ gb509)); have n6_ := zA ((by rw [hg]; exact Nat.ne_of_gt (blk_lt (g := gb508) (o := .cells #[.int .u64 a0_0, .int .u64 a0_1] 24 (0, 0)) (by (with_reducible repeat (first | refine zgq ?_ _ | refine zhq ?_ | refine ziq ?_ _)); exact BK508.out)) : gb509 ≠ gb508)); clear BK508; clear HB; have BK508 := n0_; have HB := n1_; have BK509 := n2_; have GW509 := n3_; have GE509 := n4_; have NB508_509 := n5_; have NB509_508 := n6_; clear n0_ n1_ n2_ n3_ n4_ n5_ n6_; clear hb hbox hg) | ((with_reducible refine zoq (f := 39) rfl ?_); refine goesL_ (some 19) rfl rfl Try.func39 (by kernel_rfl) rfl #[] rfl (by (try simp only [List.map_toArray, List.map_cons, List.map_nil]); first | done | rfl | (simp only [List.length_drop, List.length_take]; rfl)) ?_; (with_reducible refine (tabardlaw2_shown.calls k  true _ A3.out).mono ?_); rintro e w30 ⟨rfl, hb⟩; refine ⟨_, rfl, ?_⟩; have n0_ := zA (zlq (g := gb508) (o := .cells #[.int .u64 a0_0, .int .u64 a0_1] 24 (0, 0)) (by (with_reducible repeat (first | refine zgq ?_ _ | refine zhq ?_ | refine ziq ?_ _)); exact BK508.out) hb); have n1_ := zA (zlq (g := gb509) (o := .cells #[.int .u64 a1_0, .int .u64 a1_1] 24 (0, 0)) (by (with_reducible repeat (first | refine zgq ?_ _ | refine zhq ?_ | refine ziq ?_ _)); exact BK509.out) hb); have n2_ := zA (zeq (by repeat (first | (with_reducible first | exact HB.out | apply zaq | apply zbq | apply zcq | refine zdq ?_ GE508.out | refine zdq ?_ GE509.out) | exact HB.out)) hb); clear BK508; clear BK509; clear HB; have BK508 := n0_; have BK509 := n1_; have HB := n2_; clear n0_ n1_ n2_; (try clear hb); (try clear hb2); (try clear hk); (try clear hi); have hnb31 := NB508_509.out; have hnc31 := NB509_508.out; have hcz32_0 : w30.cell? ⟨gb508, 0, none⟩ = some (.int .u64 a0_0) := (zmq BK508.out 0).trans rfl; have hcz32_1 : w30.cell? ⟨gb508, 1, none⟩ = some (.int .u64 a0_1) := (zmq BK508.out 1).trans rfl; have hfz32_0 := znq BK508.out 0; have hfz32_1 := znq BK508.out 1) | ((with_reducible refine zoq (f := 40) rfl ?_); refine goesL_ (some 23) rfl rfl Try.func40 (by kernel_rfl) rfl #[.agg #[.int .u64 a0_0, .int .u64 a0_1]] rfl (by (try simp only [List.map_toArray, List.map_cons, List.map_nil]); first | done | rfl | (simp only [List.length_drop, List.length_take]; rfl)) ?_; (with_reducible refine (tabardlaw2_nat.calls k a0_0 a0_1 t511 _ A5.out).mono ?_); rintro e w33 ⟨v512, rfl, ho0, hb⟩; refine ⟨_, rfl, ?_⟩; have n0_ := zA (Kd.R_lower ho0 (zfq (by repeat (first | (with_reducible first | exact HB.out | apply zaq | apply zbq | apply zcq | refine zdq ?_ GE508.out | refine zdq ?_ GE509.out) | exact HB.out)))); have n1_ := zA (zlq (g := gb508) (o := .cells #[.int .u64 a0_0, .int .u64 a0_1] 24 (0, 0)) (by (with_reducible repeat (first | refine zgq ?_ _ | refine zhq ?_ | refine ziq ?_ _)); exact BK508.out) hb); have n2_ := zA (zlq (g := gb509) (o := .cells #[.int .u64 a1_0, .int .u64 a1_1] 24 (0, 0)) (by (with_reducible repeat (first | refine zgq ?_ _ | refine zhq ?_ | refine ziq ?_ _)); exact BK509.out) hb); have n3_ := zA (zeq (by repeat (first | (with_reducible first | exact HB.out | apply zaq | apply zbq | apply zcq | refine zdq ?_ GE508.out | refine zdq ?_ GE509.out) | exact HB.out)) hb); clear BK508; clear BK509; clear HB; have HO513 := n0_; have BK508 := n1_; have BK509 := n2_; have HB := n3_; clear n0_ n1_ n2_ n3_; (try clear hb); (try clear hb2); (try clear hk); (try clear hi); (try clear ho0); have hcz34_0 : w33.cell? ⟨gb509, 0, none⟩ = some (.int .u64 a1_0) := (zmq BK509.out 0).trans rfl; have hcz34_1 : w33.cell? ⟨gb509, 1, none⟩ = some (.int .u64 a1_1) := (zmq BK509.out 1).trans rfl; have hfz34_0 := znq BK509.out 0; have hfz34_1 := znq BK509.out 1) | ((with_reducible refine zoq (f := 40) rfl ?_); refine goesL_ (some 25) rfl rfl Try.func40 (by kernel_rfl) rfl #[.agg #[.int .u64 a1_0, .int .u64 a1_1]] rfl (by (try simp only [List.map_toArray, List.map_cons, List.map_nil]); first | done | rfl | (simp only [List.length_drop, List.length_take]; rfl)) ?_; (with_reducible refine (tabardlaw2_nat.calls k a1_0 a1_1 t514 _ A6.out).mono ?_); rintro e w35 ⟨v515, rfl, ho0, hb⟩; refine ⟨_, rfl, ?_⟩; have n0_ := zA (Kd.R_elder' (by (with_reducible repeat (first | apply Kd.R_alloc | apply Kd.R_drewN | apply Kd.R_drew)); exact HO513.out) (Kd.R_base ho0) hb); have n1_ := zA (Kd.R_lower (Kd.R_new' ho0 (Kd.R_lt (by (with_reducible repeat (first | apply Kd.R_alloc | apply Kd.R_drewN | apply Kd.R_drew)); exact HO513.out))) (zfq (by repeat (first | (with_reducible first | exact HB.out | apply zaq | apply zbq | apply zcq | refine zdq ?_ GE508.out | refine zdq ?_ GE509.out) | exact HB.out)))); have n2_ := zA (zlq (g := gb508) (o := .cells #[.int .u64 a0_0, .int .u64 a0_1] 24 (0, 0)) (by (with_reducible repeat (first | refine zgq ?_ _ | refine zhq ?_ | refine ziq ?_ _)); exact BK508.out) hb); have n3_ := zA (zlq (g := gb509) (o := .cells #[.int .u64 a1_0, .int .u64 a1_1] 24 (0, 0)) (by (with_reducible repeat (first | refine zgq ?_ _ | refine zhq ?_ | refine ziq ?_ _)); exact BK509.out) hb); have n4_ := zA (zeq (by repeat (first | (with_reducible first | exact HB.out | apply zaq | apply zbq | apply zcq | refine zdq ?_ GE508.out | refine zdq ?_ GE509.out) | exact HB.out)) hb); clear HO513; clear BK508; clear BK509; clear HB; have HO513 := n0_; have HO516 := n1_; have BK508 := n2_; have BK509 := n3_; have HB := n4_; clear n0_ n1_ n2_ n3_ n4_; (try clear hb); (try clear hb2); (try clear hk); (try clear hi); (try clear ho0); have hcz36_0 : w35.cell? ⟨gb508, 0, none⟩ = some (.int .u64 a0_0) := (zmq BK508.out 0).trans rfl; have hcz36_1 : w35.cell? ⟨gb508, 1, none⟩ = some (.int .u64 a0_1) := (zmq BK508.out 1).trans rfl; have hfz36_0 := znq BK508.out 0; have hfz36_1 := znq BK508.out 1; have hcz37_0 : w35.cell? ⟨gb509, 0, none⟩ = some (.int .u64 a1_0) := (zmq BK509.out 0).trans rfl; have hcz37_1 : w35.cell? ⟨gb509, 1, none⟩ = some (.int .u64 a1_1) := (zmq BK509.out 1).trans rfl; have hfz37_0 := znq BK509.out 0; have hfz37_1 := znq BK509.out 1) | ((with_reducible refine zoq (f := 41) rfl ?_); refine goesL_ (some 29) rfl rfl Try.func41 (by kernel_rfl) rfl #[.agg #[.int .u64 a0_0, .int .u64 a0_1], .agg #[.int .u64 a1_0, .int .u64 a1_1]] rfl (by (try simp only [List.map_toArray, List.map_cons, List.map_nil]); first | done | rfl | (simp only [List.length_drop, List.length_take]; rfl)) ?_; (with_reducible refine (wide_Add.calls a0_0 a0_1 a1_0 a1_1 t517 t518 t519 _ A7.out).mono ?_); rintro e w38 ⟨rfl, hb⟩; refine ⟨_, rfl, ?_⟩; have n0_ := zA (Kd.R_below (by (with_reducible repeat (first | apply Kd.R_alloc | apply Kd.R_drewN | apply Kd.R_drew)); exact HO513.out) hb); have n1_ := zA (Kd.R_below (by (with_reducible repeat (first | apply Kd.R_alloc | apply Kd.R_drewN | apply Kd.R_drew)); exact HO516.out) hb); have n2_ := zA (zlq (g := gb508) (o := .cells #[.int .u64 a0_0, .int .u64 a0_1] 24 (0, 0)) (by (with_reducible repeat (first | refine zgq ?_ _ | refine zhq ?_ | refine ziq ?_ _)); exact BK508.out) hb); have n3_ := zA (zlq (g := gb509) (o := .cells #[.int .u64 a1_0, .int .u64 a1_1] 24 (0, 0)) (by (with_reducible repeat (first | refine zgq ?_ _ | refine zhq ?_ | refine ziq ?_ _)); exact BK509.out) hb); have n4_ := zA (zeq (by repeat (first | (with_reducible first | exact HB.out | apply zaq | apply zbq | apply zcq | refine zdq ?_ GE508.out | refine zdq ?_ GE509.out) | exact HB.out)) hb); clear HO513; clear HO516; clear BK508; clear BK509; clear HB; have HO513 := n0_; have HO516 := n1_; have BK508 := n2_; have BK509 := n3_; have HB := n4_; clear n0_ n1_ n2_ n3_ n4_; (try clear hb); (try clear hb2); (try clear hk); (try clear hi)) | ((with_reducible refine zpq (N := 8) rfl ?_); refine zqq ?hg (N := 8) ?hd (cs := #[.int .u64 0, .int .u64 0]) (t := 24) ?hr ?_; (case hd => rfl); (case hg => rfl); (case hr => first | (go_simp; done) | (go_simp; rfl)); intro gb520 hg w39 hbox hb; have n0_ := zA (Kd.R_below (by (with_reducible repeat (first | apply Kd.R_alloc | apply Kd.R_drewN | apply Kd.R_drew)); exact HO513.out) hb); have n1_ := zA (Kd.R_below (by (with_reducible repeat (first | apply Kd.R_alloc | apply Kd.R_drewN | apply Kd.R_drew)); exact HO516.out) hb); have n2_ := zA (zlq (g := gb508) (o := .cells #[.int .u64 a0_0, .int .u64 a0_1] 24 (0, 0)) (by (with_reducible repeat (first | refine zgq ?_ _ | refine zhq ?_ | refine ziq ?_ _)); exact BK508.out) hb); have n3_ := zA (zlq (g := gb509) (o := .cells #[.int .u64 a1_0, .int .u64 a1_1] 24 (0, 0)) (by (with_reducible repeat (first | refine zgq ?_ _ | refine zhq ?_ | refine ziq ?_ _)); exact BK509.out) hb); have n4_ := zA (zeq (by repeat (first | (with_reducible first | exact HB.out | apply zaq | apply zbq | apply zcq | refine zdq ?_ GE508.out | refine zdq ?_ GE509.out) | exact HB.out)) hb); have n5_ := zA (hbox); have n6_ := zA ((by rw [hg]; exact (zfq (by repeat (first | (with_reducible first | exact HB.out | apply zaq | apply zbq | apply zcq | refine zdq ?_ GE508.out | refine zdq ?_ GE509.out) | exact HB.out))) : w.heap.size ≤ gb520)); have n7_ := zA ((by rw [hg]; exact (zfq (by repeat (first | (with_reducible first | exact HB.out | apply zaq | apply zbq | apply zcq | refine zdq ?_ GE508.out | refine zdq ?_ GE509.out) | exact HB.out))) : w.heap.size ≤ gb520)); have n8_ := zA ((by rw [hg]; exact Nat.ne_of_lt (blk_lt (g := gb508) (o := .cells #[.int .u64 a0_0, .int .u64 a0_1] 24 (0, 0)) (by (with_reducible repeat (first | refine zgq ?_ _ | refine zhq ?_ | refine ziq ?_ _)); exact BK508.out)) : gb508 ≠ gb520)); have n9_ := zA ((by rw [hg]; exact Nat.ne_of_gt (blk_lt (g := gb508) (o := .cells #[.int .u64 a0_0, .int .u64 a0_1] 24 (0, 0)) (by (with_reducible repeat (first | refine zgq ?_ _ | refine zhq ?_ | refine ziq ?_ _)); exact BK508.out)) : gb520 ≠ gb508)); have n10_ := zA ((by rw [hg]; exact Nat.ne_of_lt (blk_lt (g := gb509) (o := .cells #[.int .u64 a1_0, .int .u64 a1_1] 24 (0, 0)) (by (with_reducible repeat (first | refine zgq ?_ _ | refine zhq ?_ | refine ziq ?_ _)); exact BK509.out)) : gb509 ≠ gb520)); have n11_ := zA ((by rw [hg]; exact Nat.ne_of_gt (blk_lt (g := gb509) (o := .cells #[.int .u64 a1_0, .int .u64 a1_1] 24 (0, 0)) (by (with_reducible repeat (first | refine zgq ?_ _ | refine zhq ?_ | refine ziq ?_ _)); exact BK509.out)) : gb520 ≠ gb509)); clear HO513; clear HO516; clear BK508; clear BK509; clear HB; have HO513 := n0_; have HO516 := n1_; have BK508 := n2_; have BK509 := n3_; have HB := n4_; have BK520 := n5_; have GW520 := n6_; have GE520 := n7_; have NB508_520 := n8_; have NB520_508 := n9_; have NB509_520 := n10_; have NB520_509 := n11_; clear n0_ n1_ n2_ n3_ n4_ n5_ n6_ n7_ n8_ n9_ n10_ n11_; clear hb hbox hg; have hnb40 := NB520_508.out; have hnc40 := NB508_520.out; have hnb41 := NB520_509.out; have hnc41 := NB509_520.out; have hcz42_0 : w39.cell? ⟨gb520, 0, none⟩ = some (.int .u64 0) := (zmq BK520.out 0).trans rfl; have hcz42_1 : w39.cell? ⟨gb520, 1, none⟩ = some (.int .u64 0) := (zmq BK520.out 1).trans rfl; have hfz42_0 := znq BK520.out 0; have hfz42_1 := znq BK520.out 1; obtain ⟨Ao43, co43, eo43⟩ := Kd.R_slice HO513.out; subst eo43; obtain ⟨Ao44, co44, eo44⟩ := Kd.R_slice HO516.out; subst eo44) | ((with_reducible refine zoq (f := 42) rfl ?_); refine goesL_ (some 35) rfl rfl Try.func42 (by kernel_rfl) rfl #[.slice Ao43 t511.length co43, .slice Ao44 t514.length co44] rfl (by (try simp only [List.map_toArray, List.map_cons, List.map_nil]); first | done | rfl | (simp only [List.length_drop, List.length_take]; rfl)) ?_; (with_reducible refine (tabardref2_Add.calls k _ _ t511 _ _ t514 t521 t522 _ ?side1 ?side2 ?side3 ?side4 A8.out).mono ?_); (case side1 => refine (Kd.R_reads' (e := 40) (base := w.heap.size) (ok := fun k_ => (True ∧ some k_ ≠ (.slice Ao44 t514.length co44 : Value).ownBlock)) (n := t511.length) (c := co43) ?_).2.2; exact (by (with_reducible repeat (first | apply Kd.R_alloc | apply Kd.R_drewN | apply Kd.R_drew)); exact (Kd.R_mono (Kd.R_far (p := ⟨gb520, 1, none⟩) (Kd.R_far (p := ⟨gb520, 0, none⟩) (Kd.R_types HO513.out BK520.out (by decide)) (fun _ hk => hk.2) (.int .u64 t517)) (fun _ hk => hk.2) (.int .u64 t518)) (fun _ h_ => h_.1)))); (case side2 => exact (Kd.R_reads' HO513.out).2.1); (case side3 => refine (Kd.R_reads' (e := 40) (base := w.heap.size) (ok := fun k_ => (True ∧ some k_ ≠ (.slice Ao43 t511.length co43 : Value).ownBlock)) (n := t514.length) (c := co44) ?_).2.2; exact (by (with_reducible repeat (first | apply Kd.R_alloc | apply Kd.R_drewN | apply Kd.R_drew)); exact (Kd.R_mono (Kd.R_far (p := ⟨gb520, 1, none⟩) (Kd.R_far (p := ⟨gb520, 0, none⟩) (Kd.R_types HO516.out BK520.out (by decide)) (fun _ hk => hk.2) (.int .u64 t517)) (fun _ hk => hk.2) (.int .u64 t518)) (fun _ h_ => h_.1)))); (case side4 => exact (Kd.R_reads' HO516.out).2.1); rintro e w45 ⟨v523, rfl, ho0, hb⟩; refine ⟨_, rfl, ?_⟩; have n0_ := zA (Kd.R_elder' (by (with_reducible repeat (first | apply Kd.R_alloc | apply Kd.R_drewN | apply Kd.R_drew)); exact (Kd.R_mono (Kd.R_far (p := ⟨gb520, 1, none⟩) (Kd.R_far (p := ⟨gb520, 0, none⟩) (Kd.R_types HO513.out BK520.out (by decide)) (fun _ hk => hk.2) (.int .u64 t517)) (fun _ hk => hk.2) (.int .u64 t518)) (fun _ h_ => h_.1))) (Kd.R_base ho0) hb); have n1_ := zA (Kd.R_elder' (by (with_reducible repeat (first | apply Kd.R_alloc | apply Kd.R_drewN | apply Kd.R_drew)); exact (Kd.R_mono (Kd.R_far (p := ⟨gb520, 1, none⟩) (Kd.R_far (p := ⟨gb520, 0, none⟩) (Kd.R_types HO516.out BK520.out (by decide)) (fun _ hk => hk.2) (.int .u64 t517)) (fun _ hk => hk.2) (.int .u64 t518)) (fun _ h_ => h_.1))) (Kd.R_base ho0) hb); have n2_ := zA (Kd.R_lower (Kd.R_new' (Kd.R_new' ho0 (Kd.R_lt (by (with_reducible repeat (first | apply Kd.R_alloc | apply Kd.R_drewN | apply Kd.R_drew)); exact (Kd.R_mono (Kd.R_far (p := ⟨gb520, 1, none⟩) (Kd.R_far (p := ⟨gb520, 0, none⟩) (Kd.R_types HO513.out BK520.out (by decide)) (fun _ hk => hk.2) (.int .u64 t517)) (fun _ hk => hk.2) (.int .u64 t518)) (fun _ h_ => h_.1))))) (Kd.R_lt (by (with_reducible repeat (first | apply Kd.R_alloc | apply Kd.R_drewN | apply Kd.R_drew)); exact (Kd.R_mono (Kd.R_far (p := ⟨gb520, 1, none⟩) (Kd.R_far (p := ⟨gb520, 0, none⟩) (Kd.R_types HO516.out BK520.out (by decide)) (fun _ hk => hk.2) (.int .u64 t517)) (fun _ hk => hk.2) (.int .u64 t518)) (fun _ h_ => h_.1))))) (zfq (by repeat (first | (with_reducible first | exact HB.out | apply zaq | apply zbq | apply zcq | refine zdq ?_ GE508.out | refine zdq ?_ GE509.out | refine zdq ?_ GE520.out) | exact HB.out)))); have n3_ := zA (zlq (g := gb508) (o := .cells #[.int .u64 a0_0, .int .u64 a0_1] 24 (0, 0)) (by (with_reducible repeat (first | refine zgq ?_ _ | refine zhq ?_ | refine ziq ?_ _)); refine zjq ?_ NB508_520.out _; (with_reducible repeat (first | refine zgq ?_ _ | refine zhq ?_ | refine ziq ?_ _)); refine zjq ?_ NB508_520.out _; (with_reducible repeat (first | refine zgq ?_ _ | refine zhq ?_ | refine ziq ?_ _)); exact BK508.out) hb); have n4_ := zA (zlq (g := gb509) (o := .cells #[.int .u64 a1_0, .int .u64 a1_1] 24 (0, 0)) (by (with_reducible repeat (first | refine zgq ?_ _ | refine zhq ?_ | refine ziq ?_ _)); refine zjq ?_ NB509_520.out _; (with_reducible repeat (first | refine zgq ?_ _ | refine zhq ?_ | refine ziq ?_ _)); refine zjq ?_ NB509_520.out _; (with_reducible repeat (first | refine zgq ?_ _ | refine zhq ?_ | refine ziq ?_ _)); exact BK509.out) hb); have n5_ := zA (zlq (g := gb520) (o := .cells #[.int .u64 t517, .int .u64 t518] 24 (0, 0)) (by (with_reducible repeat (first | refine zgq ?_ _ | refine zhq ?_ | refine ziq ?_ _)); refine zkq (cs := #[.int .u64 t517, .int .u64 0]) ?_ 1 _ rfl; (with_reducible repeat (first | refine zgq ?_ _ | refine zhq ?_ | refine ziq ?_ _)); refine zkq (cs := #[.int .u64 0, .int .u64 0]) ?_ 0 _ rfl; (with_reducible repeat (first | refine zgq ?_ _ | refine zhq ?_ | refine ziq ?_ _)); exact BK520.out) hb); have n6_ := zA (zeq (by repeat (first | (with_reducible first | exact HB.out | apply zaq | apply zbq | apply zcq | refine zdq ?_ GE508.out | refine zdq ?_ GE509.out | refine zdq ?_ GE520.out) | exact HB.out)) hb); clear HO513; clear HO516; clear BK508; clear BK509; clear BK520; clear HB; have HO513 := n0_; have HO516 := n1_; have HO524 := n2_; have BK508 := n3_; have BK509 := n4_; have BK520 := n5_; have HB := n6_; clear n0_ n1_ n2_ n3_ n4_ n5_ n6_; (try clear hb); (try clear hb2); (try clear hk); (try clear hi); (try clear ho0); have hcz46_0 : w45.cell? ⟨gb508, 0, none⟩ = some (.int .u64 a0_0) := (zmq BK508.out 0).trans rfl; have hcz46_1 : w45.cell? ⟨gb508, 1, none⟩ = some (.int .u64 a0_1) := (zmq BK508.out 1).trans rfl; have hfz46_0 := znq BK508.out 0; have hfz46_1 := znq BK508.out 1; have hcz47_0 : w45.cell? ⟨gb509, 0, none⟩ = some (.int .u64 a1_0) := (zmq BK509.out 0).trans rfl; have hcz47_1 : w45.cell? ⟨gb509, 1, none⟩ = some (.int .u64 a1_1) := (zmq BK509.out 1).trans rfl; have hfz47_0 := znq BK509.out 0; have hfz47_1 := znq BK509.out 1) | ((with_reducible refine zoq (f := 43) rfl ?_); refine goesL_ (some 41) rfl rfl Try.func43 (by kernel_rfl) rfl #[.agg #[.int .u64 a0_0, .int .u64 a0_1], .agg #[.int .u64 a1_0, .int .u64 a1_1]] rfl (by (try simp only [List.map_toArray, List.map_cons, List.map_nil]); first | done | rfl | (simp only [List.length_drop, List.length_take]; rfl)) ?_; (with_reducible refine (wide_Sub.calls a0_0 a0_1 a1_0 a1_1 t525 t526 t527 _ A9.out).mono ?_); rintro e w48 ⟨rfl, hb⟩; refine ⟨_, rfl, ?_⟩; have n0_ := zA (Kd.R_below (by (with_reducible repeat (first | apply Kd.R_alloc | apply Kd.R_drewN | apply Kd.R_drew)); exact HO513.out) hb); have n1_ := zA (Kd.R_below (by (with_reducible repeat (first | apply Kd.R_alloc | apply Kd.R_drewN | apply Kd.R_drew)); exact HO516.out) hb); have n2_ := zA (Kd.R_below (by (with_reducible repeat (first | apply Kd.R_alloc | apply Kd.R_drewN | apply Kd.R_drew)); exact HO524.out) hb); have n3_ := zA (zlq (g := gb508) (o := .cells #[.int .u64 a0_0, .int .u64 a0_1] 24 (0, 0)) (by (with_reducible repeat (first | refine zgq ?_ _ | refine zhq ?_ | refine ziq ?_ _)); exact BK508.out) hb); have n4_ := zA (zlq (g := gb509) (o := .cells #[.int .u64 a1_0, .int .u64 a1_1] 24 (0, 0)) (by (with_reducible repeat (first | refine zgq ?_ _ | refine zhq ?_ | refine ziq ?_ _)); exact BK509.out) hb); have n5_ := zA (zlq (g := gb520) (o := .cells #[.int .u64 t517, .int .u64 t518] 24 (0, 0)) (by (with_reducible repeat (first | refine zgq ?_ _ | refine zhq ?_ | refine ziq ?_ _)); exact BK520.out) hb); have n6_ := zA (zeq (by repeat (first | (with_reducible first | exact HB.out | apply zaq | apply zbq | apply zcq | refine zdq ?_ GE508.out | refine zdq ?_ GE509.out | refine zdq ?_ GE520.out) | exact HB.out)) hb); clear HO513; clear HO516; clear HO524; clear BK508; clear BK509; clear BK520; clear HB; have HO513 := n0_; have HO516 := n1_; have HO524 := n2_; have BK508 := n3_; have BK509 := n4_; have BK520 := n5_; have HB := n6_; clear n0_ n1_ n2_ n3_ n4_ n5_ n6_; (try clear hb); (try clear hb2); (try clear hk); (try clear hi)) | ((with_reducible refine zpq (N := 12) rfl ?_); refine zqq ?hg (N := 12) ?hd (cs := #[.int .u64 0, .int .u64 0]) (t := 24) ?hr ?_; (case hd => rfl); (case hg => rfl); (case hr => first | (go_simp; done) | (go_simp; rfl)); intro gb528 hg w49 hbox hb; have n0_ := zA (Kd.R_below (by (with_reducible repeat (first | apply Kd.R_alloc | apply Kd.R_drewN | apply Kd.R_drew)); exact HO513.out) hb); have n1_ := zA (Kd.R_below (by (with_reducible repeat (first | apply Kd.R_alloc | apply Kd.R_drewN | apply Kd.R_drew)); exact HO516.out) hb); have n2_ := zA (Kd.R_below (by (with_reducible repeat (first | apply Kd.R_alloc | apply Kd.R_drewN | apply Kd.R_drew)); exact HO524.out) hb); have n3_ := zA (zlq (g := gb508) (o := .cells #[.int .u64 a0_0, .int .u64 a0_1] 24 (0, 0)) (by (with_reducible repeat (first | refine zgq ?_ _ | refine zhq ?_ | refine ziq ?_ _)); exact BK508.out) hb); have n4_ := zA (zlq (g := gb509) (o := .cells #[.int .u64 a1_0, .int .u64 a1_1] 24 (0, 0)) (by (with_reducible repeat (first | refine zgq ?_ _ | refine zhq ?_ | refine ziq ?_ _)); exact BK509.out) hb); have n5_ := zA (zlq (g := gb520) (o := .cells #[.int .u64 t517, .int .u64 t518] 24 (0, 0)) (by (with_reducible repeat (first | refine zgq ?_ _ | refine zhq ?_ | refine ziq ?_ _)); exact BK520.out) hb); have n6_ := zA (zeq (by repeat (first | (with_reducible first | exact HB.out | apply zaq | apply zbq | apply zcq | refine zdq ?_ GE508.out | refine zdq ?_ GE509.out | refine zdq ?_ GE520.out) | exact HB.out)) hb); have n7_ := zA (hbox); have n8_ := zA ((by rw [hg]; exact (zfq (by repeat (first | (with_reducible first | exact HB.out | apply zaq | apply zbq | apply zcq | refine zdq ?_ GE508.out | refine zdq ?_ GE509.out | refine zdq ?_ GE520.out) | exact HB.out))) : w.heap.size ≤ gb528)); have n9_ := zA ((by rw [hg]; exact (zfq (by repeat (first | (with_reducible first | exact HB.out | apply zaq | apply zbq | apply zcq | refine zdq ?_ GE508.out | refine zdq ?_ GE509.out | refine zdq ?_ GE520.out) | exact HB.out))) : w.heap.size ≤ gb528)); have n10_ := zA ((by rw [hg]; exact Nat.ne_of_lt (blk_lt (g := gb508) (o := .cells #[.int .u64 a0_0, .int .u64 a0_1] 24 (0, 0)) (by (with_reducible repeat (first | refine zgq ?_ _ | refine zhq ?_ | refine ziq ?_ _)); exact BK508.out)) : gb508 ≠ gb528)); have n11_ := zA ((by rw [hg]; exact Nat.ne_of_gt (blk_lt (g := gb508) (o := .cells #[.int .u64 a0_0, .int .u64 a0_1] 24 (0, 0)) (by (with_reducible repeat (first | refine zgq ?_ _ | refine zhq ?_ | refine ziq ?_ _)); exact BK508.out)) : gb528 ≠ gb508)); have n12_ := zA ((by rw [hg]; exact Nat.ne_of_lt (blk_lt (g := gb509) (o := .cells #[.int .u64 a1_0, .int .u64 a1_1] 24 (0, 0)) (by (with_reducible repeat (first | refine zgq ?_ _ | refine zhq ?_ | refine ziq ?_ _)); exact BK509.out)) : gb509 ≠ gb528)); have n13_ := zA ((by rw [hg]; exact Nat.ne_of_gt (blk_lt (g := gb509) (o := .cells #[.int .u64 a1_0, .int .u64 a1_1] 24 (0, 0)) (by (with_reducible repeat (first | refine zgq ?_ _ | refine zhq ?_ | refine ziq ?_ _)); exact BK509.out)) : gb528 ≠ gb509)); have n14_ := zA ((by rw [hg]; exact Nat.ne_of_lt (blk_lt (g := gb520) (o := .cells #[.int .u64 t517, .int .u64 t518] 24 (0, 0)) (by (with_reducible repeat (first | refine zgq ?_ _ | refine zhq ?_ | refine ziq ?_ _)); exact BK520.out)) : gb520 ≠ gb528)); have n15_ := zA ((by rw [hg]; exact Nat.ne_of_gt (blk_lt (g := gb520) (o := .cells #[.int .u64 t517, .int .u64 t518] 24 (0, 0)) (by (with_reducible repeat (first | refine zgq ?_ _ | refine zhq ?_ | refine ziq ?_ _)); exact BK520.out)) : gb528 ≠ gb520)); clear HO513; clear HO516; clear HO524; clear BK508; clear BK509; clear BK520; clear HB; have HO513 := n0_; have HO516 := n1_; have HO524 := n2_; have BK508 := n3_; have BK509 := n4_; have BK520 := n5_; have HB := n6_; have BK528 := n7_; have GW528 := n8_; have GE528 := n9_; have NB508_528 := n10_; have NB528_508 := n11_; have NB509_528 := n12_; have NB528_509 := n13_; have NB520_528 := n14_; have NB528_520 := n15_; clear n0_ n1_ n2_ n3_ n4_ n5_ n6_ n7_ n8_ n9_ n10_ n11_ n12_ n13_ n14_ n15_; clear hb hbox hg; have hnb50 := NB528_508.out; have hnc50 := NB508_528.out; have hnb51 := NB528_509.out; have hnc51 := NB509_528.out; have hnb52 := NB528_520.out; have hnc52 := NB520_528.out; have hcz53_0 : w49.cell? ⟨gb528, 0, none⟩ = some (.int .u64 0) := (zmq BK528.out 0).trans rfl; have hcz53_1 : w49.cell? ⟨gb528, 1, none⟩ = some (.int .u64 0) := (zmq BK528.out 1).trans rfl; have hfz53_0 := znq BK528.out 0; have hfz53_1 := znq BK528.out 1) | ((with_reducible refine zoq (f := 44) rfl ?_); refine goesL_ (some 47) rfl rfl Try.func44 (by kernel_rfl) rfl #[.slice Ao43 t511.length co43, .slice Ao44 t514.length co44] rfl (by (try simp only [List.map_toArray, List.map_cons, List.map_nil]); first | done | rfl | (simp only [List.length_drop, List.length_take]; rfl)) ?_; (with_reducible refine (tabardref2_Sub.calls k _ _ t511 _ _ t514 t529 t530 _ ?side1 ?side2 ?side3 ?side4 A10.out).mono ?_); (case side1 => refine (Kd.R_reads' (e := 40) (base := w.heap.size) (ok := fun k_ => ((True ∧ some k_ ≠ (.slice Ao44 t514.length co44 : Value).ownBlock) ∧ some k_ ≠ (v523 : Value).ownBlock)) (n := t511.length) (c := co43) ?_).2.2; exact (by (with_reducible repeat (first | apply Kd.R_alloc | apply Kd.R_drewN | apply Kd.R_drew)); exact (Kd.R_mono (Kd.R_far (p := ⟨gb528, 1, none⟩) (Kd.R_far (p := ⟨gb528, 0, none⟩) (Kd.R_types HO513.out BK528.out (by decide)) (fun _ hk => hk.2) (.int .u64 t525)) (fun _ hk => hk.2) (.int .u64 t526)) (fun _ h_ => h_.1)))); (case side2 => exact (Kd.R_reads' HO513.out).2.1); (case side3 => refine (Kd.R_reads' (e := 40) (base := w.heap.size) (ok := fun k_ => ((True ∧ some k_ ≠ (.slice Ao43 t511.length co43 : Value).ownBlock) ∧ some k_ ≠ (v523 : Value).ownBlock)) (n := t514.length) (c := co44) ?_).2.2; exact (by (with_reducible repeat (first | apply Kd.R_alloc | apply Kd.R_drewN | apply Kd.R_drew)); exact (Kd.R_mono (Kd.R_far (p := ⟨gb528, 1, none⟩) (Kd.R_far (p := ⟨gb528, 0, none⟩) (Kd.R_types HO516.out BK528.out (by decide)) (fun _ hk => hk.2) (.int .u64 t525)) (fun _ hk => hk.2) (.int .u64 t526)) (fun _ h_ => h_.1)))); (case side4 => exact (Kd.R_reads' HO516.out).2.1); rintro e w54 ⟨v531, rfl, ho0, hb⟩; refine ⟨_, rfl, ?_⟩; have n0_ := zA (Kd.R_elder' (by (with_reducible repeat (first | apply Kd.R_alloc | apply Kd.R_drewN | apply Kd.R_drew)); exact (Kd.R_mono (Kd.R_far (p := ⟨gb528, 1, none⟩) (Kd.R_far (p := ⟨gb528, 0, none⟩) (Kd.R_types HO513.out BK528.out (by decide)) (fun _ hk => hk.2) (.int .u64 t525)) (fun _ hk => hk.2) (.int .u64 t526)) (fun _ h_ => h_.1))) (Kd.R_base ho0) hb); have n1_ := zA (Kd.R_elder' (by (with_reducible repeat (first | apply Kd.R_alloc | apply Kd.R_drewN | apply Kd.R_drew)); exact (Kd.R_mono (Kd.R_far (p := ⟨gb528, 1, none⟩) (Kd.R_far (p := ⟨gb528, 0, none⟩) (Kd.R_types HO516.out BK528.out (by decide)) (fun _ hk => hk.2) (.int .u64 t525)) (fun _ hk => hk.2) (.int .u64 t526)) (fun _ h_ => h_.1))) (Kd.R_base ho0) hb); have n2_ := zA (Kd.R_elder' (by (with_reducible repeat (first | apply Kd.R_alloc | apply Kd.R_drewN | apply Kd.R_drew)); exact (Kd.R_mono (Kd.R_far (p := ⟨gb528, 1, none⟩) (Kd.R_far (p := ⟨gb528, 0, none⟩) (Kd.R_types HO524.out BK528.out (by decide)) (fun _ hk => hk.2) (.int .u64 t525)) (fun _ hk => hk.2) (.int .u64 t526)) (fun _ h_ => h_.1))) (Kd.R_base ho0) hb); have n3_ := zA (Kd.R_lower (Kd.R_new' (Kd.R_new' (Kd.R_new' ho0 (Kd.R_lt (by (with_reducible repeat (first | apply Kd.R_alloc | apply Kd.R_drewN | apply Kd.R_drew)); exact (Kd.R_mono (Kd.R_far (p := ⟨gb528, 1, none⟩) (Kd.R_far (p := ⟨gb528, 0, none⟩) (Kd.R_types HO513.out BK528.out (by decide)) (fun _ hk => hk.2) (.int .u64 t525)) (fun _ hk => hk.2) (.int .u64 t526)) (fun _ h_ => h_.1))))) (Kd.R_lt (by (with_reducible repeat (first | apply Kd.R_alloc | apply Kd.R_drewN | apply Kd.R_drew)); exact (Kd.R_mono (Kd.R_far (p := ⟨gb528, 1, none⟩) (Kd.R_far (p := ⟨gb528, 0, none⟩) (Kd.R_types HO516.out BK528.out (by decide)) (fun _ hk => hk.2) (.int .u64 t525)) (fun _ hk => hk.2) (.int .u64 t526)) (fun _ h_ => h_.1))))) (Kd.R_lt (by (with_reducible repeat (first | apply Kd.R_alloc | apply Kd.R_drewN | apply Kd.R_drew)); exact (Kd.R_mono (Kd.R_far (p := ⟨gb528, 1, none⟩) (Kd.R_far (p := ⟨gb528, 0, none⟩) (Kd.R_types HO524.out BK528.out (by decide)) (fun _ hk => hk.2) (.int .u64 t525)) (fun _ hk => hk.2) (.int .u64 t526)) (fun _ h_ => h_.1))))) (zfq (by repeat (first | (with_reducible first | exact HB.out | apply zaq | apply zbq | apply zcq | refine zdq ?_ GE508.out | refine zdq ?_ GE509.out | refine zdq ?_ GE520.out | refine zdq ?_ GE528.out) | exact HB.out)))); have n4_ := zA (zlq (g := gb508) (o := .cells #[.int .u64 a0_0, .int .u64 a0_1] 24 (0, 0)) (by (with_reducible repeat (first | refine zgq ?_ _ | refine zhq ?_ | refine ziq ?_ _)); refine zjq ?_ NB508_528.out _; (with_reducible repeat (first | refine zgq ?_ _ | refine zhq ?_ | refine ziq ?_ _)); refine zjq ?_ NB508_528.out _; (with_reducible repeat (first | refine zgq ?_ _ | refine zhq ?_ | refine ziq ?_ _)); exact BK508.out) hb); have n5_ := zA (zlq (g := gb509) (o := .cells #[.int .u64 a1_0, .int .u64 a1_1] 24 (0, 0)) (by (with_reducible repeat (first | refine zgq ?_ _ | refine zhq ?_ | refine ziq ?_ _)); refine zjq ?_ NB509_528.out _; (with_reducible repeat (first | refine zgq ?_ _ | refine zhq ?_ | refine ziq ?_ _)); refine zjq ?_ NB509_528.out _; (with_reducible repeat (first | refine zgq ?_ _ | refine zhq ?_ | refine ziq ?_ _)); exact BK509.out) hb); have n6_ := zA (zlq (g := gb520) (o := .cells #[.int .u64 t517, .int .u64 t518] 24 (0, 0)) (by (with_reducible repeat (first | refine zgq ?_ _ | refine zhq ?_ | refine ziq ?_ _)); refine zjq ?_ NB520_528.out _; (with_reducible repeat (first | refine zgq ?_ _ | refine zhq ?_ | refine ziq ?_ _)); refine zjq ?_ NB520_528.out _; (with_reducible repeat (first | refine zgq ?_ _ | refine zhq ?_ | refine ziq ?_ _)); exact BK520.out) hb); have n7_ := zA (zlq (g := gb528) (o := .cells #[.int .u64 t525, .int .u64 t526] 24 (0, 0)) (by (with_reducible repeat (first | refine zgq ?_ _ | refine zhq ?_ | refine ziq ?_ _)); refine zkq (cs := #[.int .u64 t525, .int .u64 0]) ?_ 1 _ rfl; (with_reducible repeat (first | refine zgq ?_ _ | refine zhq ?_ | refine ziq ?_ _)); refine zkq (cs := #[.int .u64 0, .int .u64 0]) ?_ 0 _ rfl; (with_reducible repeat (first | refine zgq ?_ _ | refine zhq ?_ | refine ziq ?_ _)); exact BK528.out) hb); have n8_ := zA (zeq (by repeat (first | (with_reducible first | exact HB.out | apply zaq | apply zbq | apply zcq | refine zdq ?_ GE508.out | refine zdq ?_ GE509.out | refine zdq ?_ GE520.out | refine zdq ?_ GE528.out) | exact HB.out)) hb); clear HO513; clear HO516; clear HO524; clear BK508; clear BK509; clear BK520; clear BK528; clear HB; have HO513 := n0_; have HO516 := n1_; have HO524 := n2_; have HO532 := n3_; have BK508 := n4_; have BK509 := n5_; have BK520 := n6_; have BK528 := n7_; have HB := n8_; clear n0_ n1_ n2_ n3_ n4_ n5_ n6_ n7_ n8_; (try clear hb); (try clear hb2); (try clear hk); (try clear hi); (try clear ho0); have hcz55_0 : w54.cell? ⟨gb520, 0, none⟩ = some (.int .u64 t517) := (zmq BK520.out 0).trans rfl; have hcz55_1 : w54.cell? ⟨gb520, 1, none⟩ = some (.int .u64 t518) := (zmq BK520.out 1).trans rfl; have hfz55_0 := znq BK520.out 0; have hfz55_1 := znq BK520.out 1; obtain ⟨Ao56, co56, eo56⟩ := Kd.R_slice HO524.out; subst eo56) | ((with_reducible refine zoq (f := 45) rfl ?_); refine goesL_ (some 52) rfl rfl Try.func45 (by kernel_rfl) rfl #[.agg #[.int .u64 t517, .int .u64 t518], .slice Ao56 t521.length co56] rfl (by (try simp only [List.map_toArray, List.map_cons, List.map_nil]); first | done | rfl | (simp only [List.length_drop, List.length_take]; rfl)) ?_; (with_reducible refine (tabardlaw2_is.calls k t517 t518 _ _ t521 true _ ?side1 ?side2 A11.out).mono ?_); (case side1 => repeat (first | exact (Kd.R_reads' HO524.out).2.2 | (with_reducible refine Kd.C_alloc ?_ _) | (with_reducible refine Kd.C_drewN ?_ _) | (with_reducible refine Kd.C_drew ?_))); (case side2 => exact (Kd.R_reads' HO524.out).2.1); rintro e w57 ⟨rfl, hb⟩; refine ⟨_, rfl, ?_⟩; have n0_ := zA (Kd.R_below (by (with_reducible repeat (first | apply Kd.R_alloc | apply Kd.R_drewN | apply Kd.R_drew)); exact HO513.out) hb); have n1_ := zA (Kd.R_below (by (with_reducible repeat (first | apply Kd.R_alloc | apply Kd.R_drewN | apply Kd.R_drew)); exact HO516.out) hb); have n2_ := zA (Kd.R_below (by (with_reducible repeat (first | apply Kd.R_alloc | apply Kd.R_drewN | apply Kd.R_drew)); exact HO524.out) hb); have n3_ := zA (Kd.R_below (by (with_reducible repeat (first | apply Kd.R_alloc | apply Kd.R_drewN | apply Kd.R_drew)); exact HO532.out) hb); have n4_ := zA (zlq (g := gb508) (o := .cells #[.int .u64 a0_0, .int .u64 a0_1] 24 (0, 0)) (by (with_reducible repeat (first | refine zgq ?_ _ | refine zhq ?_ | refine ziq ?_ _)); exact BK508.out) hb); have n5_ := zA (zlq (g := gb509) (o := .cells #[.int .u64 a1_0, .int .u64 a1_1] 24 (0, 0)) (by (with_reducible repeat (first | refine zgq ?_ _ | refine zhq ?_ | refine ziq ?_ _)); exact BK509.out) hb); have n6_ := zA (zlq (g := gb520) (o := .cells #[.int .u64 t517, .int .u64 t518] 24 (0, 0)) (by (with_reducible repeat (first | refine zgq ?_ _ | refine zhq ?_ | refine ziq ?_ _)); exact BK520.out) hb); have n7_ := zA (zlq (g := gb528) (o := .cells #[.int .u64 t525, .int .u64 t526] 24 (0, 0)) (by (with_reducible repeat (first | refine zgq ?_ _ | refine zhq ?_ | refine ziq ?_ _)); exact BK528.out) hb); have n8_ := zA (zeq (by repeat (first | (with_reducible first | exact HB.out | apply zaq | apply zbq | apply zcq | refine zdq ?_ GE508.out | refine zdq ?_ GE509.out | refine zdq ?_ GE520.out | refine zdq ?_ GE528.out) | exact HB.out)) hb); clear HO513; clear HO516; clear HO524; clear HO532; clear BK508; clear BK509; clear BK520; clear BK528; clear HB; have HO513 := n0_; have HO516 := n1_; have HO524 := n2_; have HO532 := n3_; have BK508 := n4_; have BK509 := n5_; have BK520 := n6_; have BK528 := n7_; have HB := n8_; clear n0_ n1_ n2_ n3_ n4_ n5_ n6_ n7_ n8_; (try clear hb); (try clear hb2); (try clear hk); (try clear hi); have hcz58_0 : w57.cell? ⟨gb528, 0, none⟩ = some (.int .u64 t525) := (zmq BK528.out 0).trans rfl; have hcz58_1 : w57.cell? ⟨gb528, 1, none⟩ = some (.int .u64 t526) := (zmq BK528.out 1).trans rfl; have hfz58_0 := znq BK528.out 0; have hfz58_1 := znq BK528.out 1; obtain ⟨Ao59, co59, eo59⟩ := Kd.R_slice HO532.out; subst eo59) | ((with_reducible refine zoq (f := 45) rfl ?_); refine goesL_ (some 55) rfl rfl Try.func45 (by kernel_rfl) rfl #[.agg #[.int .u64 t525, .int .u64 t526], .slice Ao59 t529.length co59] rfl (by (try simp only [List.map_toArray, List.map_cons, List.map_nil]); first | done | rfl | (simp only [List.length_drop, List.length_take]; rfl)) ?_; (with_reducible refine (tabardlaw2_is.calls k t525 t526 _ _ t529 true _ ?side1 ?side2 A12.out).mono ?_); (case side1 => repeat (first | exact (Kd.R_reads' HO532.out).2.2 | (with_reducible refine Kd.C_alloc ?_ _) | (with_reducible refine Kd.C_drewN ?_ _) | (with_reducible refine Kd.C_drew ?_))); (case side2 => exact (Kd.R_reads' HO532.out).2.1); rintro e w60 ⟨rfl, hb⟩; refine ⟨_, rfl, ?_⟩; have n0_ := zA (Kd.R_below (by (with_reducible repeat (first | apply Kd.R_alloc | apply Kd.R_drewN | apply Kd.R_drew)); exact HO513.out) hb); have n1_ := zA (Kd.R_below (by (with_reducible repeat (first | apply Kd.R_alloc | apply Kd.R_drewN | apply Kd.R_drew)); exact HO516.out) hb); have n2_ := zA (Kd.R_below (by (with_reducible repeat (first | apply Kd.R_alloc | apply Kd.R_drewN | apply Kd.R_drew)); exact HO524.out) hb); have n3_ := zA (Kd.R_below (by (with_reducible repeat (first | apply Kd.R_alloc | apply Kd.R_drewN | apply Kd.R_drew)); exact HO532.out) hb); have n4_ := zA (zlq (g := gb508) (o := .cells #[.int .u64 a0_0, .int .u64 a0_1] 24 (0, 0)) (by (with_reducible repeat (first | refine zgq ?_ _ | refine zhq ?_ | refine ziq ?_ _)); exact BK508.out) hb); have n5_ := zA (zlq (g := gb509) (o := .cells #[.int .u64 a1_0, .int .u64 a1_1] 24 (0, 0)) (by (with_reducible repeat (first | refine zgq ?_ _ | refine zhq ?_ | refine ziq ?_ _)); exact BK509.out) hb); have n6_ := zA (zlq (g := gb520) (o := .cells #[.int .u64 t517, .int .u64 t518] 24 (0, 0)) (by (with_reducible repeat (first | refine zgq ?_ _ | refine zhq ?_ | refine ziq ?_ _)); exact BK520.out) hb); have n7_ := zA (zlq (g := gb528) (o := .cells #[.int .u64 t525, .int .u64 t526] 24 (0, 0)) (by (with_reducible repeat (first | refine zgq ?_ _ | refine zhq ?_ | refine ziq ?_ _)); exact BK528.out) hb); have n8_ := zA (zeq (by repeat (first | (with_reducible first | exact HB.out | apply zaq | apply zbq | apply zcq | refine zdq ?_ GE508.out | refine zdq ?_ GE509.out | refine zdq ?_ GE520.out | refine zdq ?_ GE528.out) | exact HB.out)) hb); clear HO513; clear HO516; clear HO524; clear HO532; clear BK508; clear BK509; clear BK520; clear BK528; clear HB; have HO513 := n0_; have HO516 := n1_; have HO524 := n2_; have HO532 := n3_; have BK508 := n4_; have BK509 := n5_; have BK520 := n6_; have BK528 := n7_; have HB := n8_; clear n0_ n1_ n2_ n3_ n4_ n5_ n6_ n7_ n8_; (try clear hb); (try clear hb2); (try clear hk); (try clear hi)))
        have n0_ := zA (Kd.R_drew HO513.out)
        have n1_ := zA (Kd.R_drew HO516.out)
        have n2_ := zA (Kd.R_drew HO524.out)
        have n3_ := zA (Kd.R_drew HO532.out)
        have n4_ := zA (zhq BK508.out)
        have n5_ := zA (zhq BK509.out)
        have n6_ := zA (zhq BK520.out)
        have n7_ := zA (zhq BK528.out)
        have n8_ := zA (zcq HB.out)
        clear HO513
        clear HO516
        clear HO524
        clear HO532
        clear BK508
        clear BK509
        clear BK520
        clear BK528
        clear HB
        have HO513 := n0_
        have HO516 := n1_
        have HO524 := n2_
        have HO532 := n3_
        have BK508 := n4_
        have BK509 := n5_
        have BK520 := n6_
        have BK528 := n7_
        have HB := n8_
        clear n0_ n1_ n2_ n3_ n4_ n5_ n6_ n7_ n8_
        refine start_ (n := 14) (S := fun w' => w'.cell? ⟨gb508, 0, none⟩ = some (.int .u64 a0_0) ∧ w'.cell? ⟨gb508, 1, none⟩ = some (.int .u64 a0_1) ∧ w'.cell? ⟨gb509, 0, none⟩ = some (.int .u64 a1_0) ∧ w'.cell? ⟨gb509, 1, none⟩ = some (.int .u64 a1_1)) (ds := []) #[false, false, false, false, false, false, false, false, false, false, false, false, false, false] (by kernel_rfl) rfl rfl ⟨(zmq BK508.out 0).trans rfl, (zmq BK508.out 1).trans rfl, (zmq BK509.out 0).trans rfl, (zmq BK509.out 1).trans rfl⟩ (fun hHeld => ?_); refine with_tabW tabardlaw2_WideSums.tab12 tabardlaw2_WideSums.bits12 (fun HT_ HW_ => ?_)
        generalize w60.drew = w61 at HO513 HO516 HO524 HO532 BK508 BK509 BK520 BK528 HB hHeld ⊢
        refine pure_ (i := 0) (N := some 56) (v := ?_) (a' := ?_) #[true, false, false, false, false, false, false, false, false, false, false, false, false, false] rfl rfl (any_of HT_.out (by kernel_rfl)) (fun _ _ _ h => h) (Or.inl ⟨by rfl, ?_⟩) ?_ ?_
        rotate_left
        ·
         intro w'
         go_simp
         with_reducible rfl
        rotate_left
        ·
         simp only [Act.put, List.setIfInBounds_toArray, List.set_cons_zero, List.set_cons_succ, i64_w, i32_w]
         rfl
        refine pure_ (i := 2) (N := some 58) (v := ?_) (a' := ?_) #[true, false, true, false, false, false, false, false, false, false, false, false, false, false] rfl rfl (any_of HT_.out (by kernel_rfl)) (fun _ _ _ h => h) (Or.inl ⟨by rfl, ?_⟩) ?_ ?_
        rotate_left
        ·
         intro w'
         go_simp
         with_reducible rfl
        rotate_left
        ·
         simp only [Act.put, List.setIfInBounds_toArray, List.set_cons_zero, List.set_cons_succ, i64_w, i32_w]
         rfl
        refine pure_ (i := 5) (N := some 61) (v := ?_) (a' := ?_) #[true, false, true, false, false, true, false, false, false, false, false, false, false, false] rfl rfl (any_of HT_.out (by kernel_rfl)) (fun _ _ _ h => h) (Or.inl ⟨by rfl, ?_⟩) ?_ ?_
        rotate_left
        ·
         intro w'
         go_simp
         with_reducible rfl
        rotate_left
        ·
         simp only [Act.put, List.setIfInBounds_toArray, List.set_cons_zero, List.set_cons_succ, i64_w, i32_w]
         rfl
        refine pure_ (i := 8) (N := some 64) (v := ?_) (a' := ?_) #[true, false, true, false, false, true, false, false, true, false, false, false, false, false] rfl rfl (any_of HT_.out (by kernel_rfl)) (fun _ _ _ h => h) (Or.inl ⟨by rfl, ?_⟩) ?_ ?_
        rotate_left
        ·
         intro w'
         go_simp
         with_reducible rfl
        rotate_left
        ·
         simp only [Act.put, List.setIfInBounds_toArray, List.set_cons_zero, List.set_cons_succ, i64_w, i32_w]
         rfl
        refine take_ (i := 1) (N := some 57) (v := ?_) (a' := ?_) #[true, true, true, false, false, true, false, false, true, false, false, false, false, false] rfl rfl (take_ofW HT_.out HW_.out (by kernel_rfl)) (fun _ _ _ h => h) (Or.inl ⟨by rfl, ?_⟩) hHeld ?_ ?_
        rotate_left
        ·
         rintro w' ⟨s0, s1, s2, s3⟩
         go_simp
         with_reducible rfl
        rotate_left
        ·
         simp only [Act.put, List.setIfInBounds_toArray, List.set_cons_zero, List.set_cons_succ, i64_w, i32_w]
         rfl
        refine take_ (i := 3) (N := some 59) (v := ?_) (a' := ?_) #[true, true, true, true, false, true, false, false, true, false, false, false, false, false] rfl rfl (take_ofW HT_.out HW_.out (by kernel_rfl)) (fun _ _ _ h => h) (Or.inl ⟨by rfl, ?_⟩) hHeld ?_ ?_
        rotate_left
        ·
         rintro w' ⟨s0, s1, s2, s3⟩
         go_simp
         with_reducible rfl
        rotate_left
        ·
         simp only [Act.put, List.setIfInBounds_toArray, List.set_cons_zero, List.set_cons_succ, i64_w, i32_w]
         rfl
        refine take_ (i := 6) (N := some 62) (v := ?_) (a' := ?_) #[true, true, true, true, false, true, true, false, true, false, false, false, false, false] rfl rfl (take_ofW HT_.out HW_.out (by kernel_rfl)) (fun _ _ _ h => h) (Or.inl ⟨by rfl, ?_⟩) hHeld ?_ ?_
        rotate_left
        ·
         rintro w' ⟨s0, s1, s2, s3⟩
         go_simp
         with_reducible rfl
        rotate_left
        ·
         simp only [Act.put, List.setIfInBounds_toArray, List.set_cons_zero, List.set_cons_succ, i64_w, i32_w]
         rfl
        refine take_ (i := 9) (N := some 65) (v := ?_) (a' := ?_) #[true, true, true, true, false, true, true, false, true, true, false, false, false, false] rfl rfl (take_ofW HT_.out HW_.out (by kernel_rfl)) (fun _ _ _ h => h) (Or.inl ⟨by rfl, ?_⟩) hHeld ?_ ?_
        rotate_left
        ·
         rintro w' ⟨s0, s1, s2, s3⟩
         go_simp
         with_reducible rfl
        rotate_left
        ·
         simp only [Act.put, List.setIfInBounds_toArray, List.set_cons_zero, List.set_cons_succ, i64_w, i32_w]
         rfl
        refine one_ (i := 4) (N := some 60) #[true, true, true, true, true, true, true, false, true, true, false, false, false, false] rfl rfl (one_of HT_.out (by kernel_rfl)) (by decide) (fun K hK => ?_)
        refine goes_ Try.func46 (by kernel_rfl) rfl #[.int .u64 a0_0, .int .u64 a1_1] (by rfl) rfl rfl (by (try simp only [List.map_toArray, List.map_cons, List.map_nil]); first | done | rfl | (simp only [List.length_drop, List.length_take]; rfl)) ?_
        with_reducible refine (wide_Mul.calls a0_0 a1_1 t535 t536 _ A13.out).mono ?_
        rintro e w62 ⟨rfl, hb⟩
        refine ⟨_, rfl, ?_⟩
        have n0_ := zA (Kd.R_below (by (with_reducible repeat (first | apply Kd.R_alloc | apply Kd.R_drewN | apply Kd.R_drew)); exact HO513.out) hb)
        have n1_ := zA (Kd.R_below (by (with_reducible repeat (first | apply Kd.R_alloc | apply Kd.R_drewN | apply Kd.R_drew)); exact HO516.out) hb)
        have n2_ := zA (Kd.R_below (by (with_reducible repeat (first | apply Kd.R_alloc | apply Kd.R_drewN | apply Kd.R_drew)); exact HO524.out) hb)
        have n3_ := zA (Kd.R_below (by (with_reducible repeat (first | apply Kd.R_alloc | apply Kd.R_drewN | apply Kd.R_drew)); exact HO532.out) hb)
        have n4_ := zA (zlq (g := gb508) (o := .cells #[.int .u64 a0_0, .int .u64 a0_1] 24 (0, 0)) (by (with_reducible repeat (first | refine zgq ?_ _ | refine zhq ?_ | refine ziq ?_ _)); exact BK508.out) hb)
        have n5_ := zA (zlq (g := gb509) (o := .cells #[.int .u64 a1_0, .int .u64 a1_1] 24 (0, 0)) (by (with_reducible repeat (first | refine zgq ?_ _ | refine zhq ?_ | refine ziq ?_ _)); exact BK509.out) hb)
        have n6_ := zA (zlq (g := gb520) (o := .cells #[.int .u64 t517, .int .u64 t518] 24 (0, 0)) (by (with_reducible repeat (first | refine zgq ?_ _ | refine zhq ?_ | refine ziq ?_ _)); exact BK520.out) hb)
        have n7_ := zA (zlq (g := gb528) (o := .cells #[.int .u64 t525, .int .u64 t526] 24 (0, 0)) (by (with_reducible repeat (first | refine zgq ?_ _ | refine zhq ?_ | refine ziq ?_ _)); exact BK528.out) hb)
        have n8_ := zA (zeq (by repeat (first | (with_reducible first | exact HB.out | apply zaq | apply zbq | apply zcq | refine zdq ?_ GE508.out | refine zdq ?_ GE509.out | refine zdq ?_ GE520.out | refine zdq ?_ GE528.out) | exact HB.out)) hb)
        clear HO513
        clear HO516
        clear HO524
        clear HO532
        clear BK508
        clear BK509
        clear BK520
        clear BK528
        clear HB
        have HO513 := n0_
        have HO516 := n1_
        have HO524 := n2_
        have HO532 := n3_
        have BK508 := n4_
        have BK509 := n5_
        have BK520 := n6_
        have BK528 := n7_
        have HB := n8_
        clear n0_ n1_ n2_ n3_ n4_ n5_ n6_ n7_ n8_
        (try clear hb)
        (try clear hb2)
        (try clear hk)
        (try clear hi)
        refine hK.out _ _ ⟨(zmq BK508.out 0).trans rfl, (zmq BK508.out 1).trans rfl, (zmq BK509.out 0).trans rfl, (zmq BK509.out 1).trans rfl⟩ (fun hHeld => ?_)
        clear hK K
        refine norm_ (a' := ?_) ?_ ?_
        rotate_left
        ·
         show Act.put _ (some 60) _ = _
         simp only [Act.put, List.setIfInBounds_toArray, List.set_cons_zero, List.set_cons_succ, i64_w, i32_w]
         rfl
        refine one_ (i := 7) (N := some 63) #[true, true, true, true, true, true, true, true, true, true, false, false, false, false] rfl rfl (one_of HT_.out (by kernel_rfl)) (by decide) (fun K hK => ?_)
        refine goes_ Try.func22 (by kernel_rfl) rfl #[.int .u64 0, .int .u64 0, .int .u64 a0_0] (by rfl) rfl rfl (by (try simp only [List.map_toArray, List.map_cons, List.map_nil]); first | done | rfl | (simp only [List.length_drop, List.length_take]; rfl)) ?_
        with_reducible refine (tabardref2_Nat.calls k 0 0 a0_0 t537 _ A14.out).mono ?_
        rintro e w63 ⟨v538, rfl, ho0, hb⟩
        refine ⟨_, rfl, ?_⟩
        have n0_ := zA (Kd.R_elder' (by (with_reducible repeat (first | apply Kd.R_alloc | apply Kd.R_drewN | apply Kd.R_drew)); exact HO513.out) (Kd.R_base ho0) hb)
        have n1_ := zA (Kd.R_elder' (by (with_reducible repeat (first | apply Kd.R_alloc | apply Kd.R_drewN | apply Kd.R_drew)); exact HO516.out) (Kd.R_base ho0) hb)
        have n2_ := zA (Kd.R_elder' (by (with_reducible repeat (first | apply Kd.R_alloc | apply Kd.R_drewN | apply Kd.R_drew)); exact HO524.out) (Kd.R_base ho0) hb)
        have n3_ := zA (Kd.R_elder' (by (with_reducible repeat (first | apply Kd.R_alloc | apply Kd.R_drewN | apply Kd.R_drew)); exact HO532.out) (Kd.R_base ho0) hb)
        have n4_ := zA (Kd.R_lower (Kd.R_new' (Kd.R_new' (Kd.R_new' (Kd.R_new' ho0 (Kd.R_lt (by (with_reducible repeat (first | apply Kd.R_alloc | apply Kd.R_drewN | apply Kd.R_drew)); exact HO513.out))) (Kd.R_lt (by (with_reducible repeat (first | apply Kd.R_alloc | apply Kd.R_drewN | apply Kd.R_drew)); exact HO516.out))) (Kd.R_lt (by (with_reducible repeat (first | apply Kd.R_alloc | apply Kd.R_drewN | apply Kd.R_drew)); exact HO524.out))) (Kd.R_lt (by (with_reducible repeat (first | apply Kd.R_alloc | apply Kd.R_drewN | apply Kd.R_drew)); exact HO532.out))) (zfq (by repeat (first | (with_reducible first | exact HB.out | apply zaq | apply zbq | apply zcq | refine zdq ?_ GE508.out | refine zdq ?_ GE509.out | refine zdq ?_ GE520.out | refine zdq ?_ GE528.out) | exact HB.out))))
        have n5_ := zA (zlq (g := gb508) (o := .cells #[.int .u64 a0_0, .int .u64 a0_1] 24 (0, 0)) (by (with_reducible repeat (first | refine zgq ?_ _ | refine zhq ?_ | refine ziq ?_ _)); exact BK508.out) hb)
        have n6_ := zA (zlq (g := gb509) (o := .cells #[.int .u64 a1_0, .int .u64 a1_1] 24 (0, 0)) (by (with_reducible repeat (first | refine zgq ?_ _ | refine zhq ?_ | refine ziq ?_ _)); exact BK509.out) hb)
        have n7_ := zA (zlq (g := gb520) (o := .cells #[.int .u64 t517, .int .u64 t518] 24 (0, 0)) (by (with_reducible repeat (first | refine zgq ?_ _ | refine zhq ?_ | refine ziq ?_ _)); exact BK520.out) hb)
        have n8_ := zA (zlq (g := gb528) (o := .cells #[.int .u64 t525, .int .u64 t526] 24 (0, 0)) (by (with_reducible repeat (first | refine zgq ?_ _ | refine zhq ?_ | refine ziq ?_ _)); exact BK528.out) hb)
        have n9_ := zA (zeq (by repeat (first | (with_reducible first | exact HB.out | apply zaq | apply zbq | apply zcq | refine zdq ?_ GE508.out | refine zdq ?_ GE509.out | refine zdq ?_ GE520.out | refine zdq ?_ GE528.out) | exact HB.out)) hb)
        clear HO513
        clear HO516
        clear HO524
        clear HO532
        clear BK508
        clear BK509
        clear BK520
        clear BK528
        clear HB
        have HO513 := n0_
        have HO516 := n1_
        have HO524 := n2_
        have HO532 := n3_
        have HO539 := n4_
        have BK508 := n5_
        have BK509 := n6_
        have BK520 := n7_
        have BK528 := n8_
        have HB := n9_
        clear n0_ n1_ n2_ n3_ n4_ n5_ n6_ n7_ n8_ n9_
        (try clear hb)
        (try clear hb2)
        (try clear hk)
        (try clear hi)
        (try clear ho0)
        refine hK.out _ _ ⟨(zmq BK508.out 0).trans rfl, (zmq BK508.out 1).trans rfl, (zmq BK509.out 0).trans rfl, (zmq BK509.out 1).trans rfl⟩ (fun hHeld => ?_)
        clear hK K
        refine norm_ (a' := ?_) ?_ ?_
        rotate_left
        ·
         show Act.put _ (some 63) _ = _
         simp only [Act.put, List.setIfInBounds_toArray, List.set_cons_zero, List.set_cons_succ, i64_w, i32_w]
         rfl
        refine one_ (i := 10) (N := some 66) #[true, true, true, true, true, true, true, true, true, true, true, false, false, false] rfl rfl (one_of HT_.out (by kernel_rfl)) (by decide) (fun K hK => ?_)
        refine goes_ Try.func22 (by kernel_rfl) rfl #[.int .u64 0, .int .u64 0, .int .u64 a1_1] (by rfl) rfl rfl (by (try simp only [List.map_toArray, List.map_cons, List.map_nil]); first | done | rfl | (simp only [List.length_drop, List.length_take]; rfl)) ?_
        with_reducible refine (tabardref2_Nat.calls k 0 0 a1_1 t540 _ A15.out).mono ?_
        rintro e w64 ⟨v541, rfl, ho0, hb⟩
        refine ⟨_, rfl, ?_⟩
        have n0_ := zA (Kd.R_elder' (by (with_reducible repeat (first | apply Kd.R_alloc | apply Kd.R_drewN | apply Kd.R_drew)); exact HO513.out) (Kd.R_base ho0) hb)
        have n1_ := zA (Kd.R_elder' (by (with_reducible repeat (first | apply Kd.R_alloc | apply Kd.R_drewN | apply Kd.R_drew)); exact HO516.out) (Kd.R_base ho0) hb)
        have n2_ := zA (Kd.R_elder' (by (with_reducible repeat (first | apply Kd.R_alloc | apply Kd.R_drewN | apply Kd.R_drew)); exact HO524.out) (Kd.R_base ho0) hb)
        have n3_ := zA (Kd.R_elder' (by (with_reducible repeat (first | apply Kd.R_alloc | apply Kd.R_drewN | apply Kd.R_drew)); exact HO532.out) (Kd.R_base ho0) hb)
        have n4_ := zA (Kd.R_elder' (by (with_reducible repeat (first | apply Kd.R_alloc | apply Kd.R_drewN | apply Kd.R_drew)); exact HO539.out) (Kd.R_base ho0) hb)
        have n5_ := zA (Kd.R_lower (Kd.R_new' (Kd.R_new' (Kd.R_new' (Kd.R_new' (Kd.R_new' ho0 (Kd.R_lt (by (with_reducible repeat (first | apply Kd.R_alloc | apply Kd.R_drewN | apply Kd.R_drew)); exact HO513.out))) (Kd.R_lt (by (with_reducible repeat (first | apply Kd.R_alloc | apply Kd.R_drewN | apply Kd.R_drew)); exact HO516.out))) (Kd.R_lt (by (with_reducible repeat (first | apply Kd.R_alloc | apply Kd.R_drewN | apply Kd.R_drew)); exact HO524.out))) (Kd.R_lt (by (with_reducible repeat (first | apply Kd.R_alloc | apply Kd.R_drewN | apply Kd.R_drew)); exact HO532.out))) (Kd.R_lt (by (with_reducible repeat (first | apply Kd.R_alloc | apply Kd.R_drewN | apply Kd.R_drew)); exact HO539.out))) (zfq (by repeat (first | (with_reducible first | exact HB.out | apply zaq | apply zbq | apply zcq | refine zdq ?_ GE508.out | refine zdq ?_ GE509.out | refine zdq ?_ GE520.out | refine zdq ?_ GE528.out) | exact HB.out))))
        have n6_ := zA (zlq (g := gb508) (o := .cells #[.int .u64 a0_0, .int .u64 a0_1] 24 (0, 0)) (by (with_reducible repeat (first | refine zgq ?_ _ | refine zhq ?_ | refine ziq ?_ _)); exact BK508.out) hb)
        have n7_ := zA (zlq (g := gb509) (o := .cells #[.int .u64 a1_0, .int .u64 a1_1] 24 (0, 0)) (by (with_reducible repeat (first | refine zgq ?_ _ | refine zhq ?_ | refine ziq ?_ _)); exact BK509.out) hb)
        have n8_ := zA (zlq (g := gb520) (o := .cells #[.int .u64 t517, .int .u64 t518] 24 (0, 0)) (by (with_reducible repeat (first | refine zgq ?_ _ | refine zhq ?_ | refine ziq ?_ _)); exact BK520.out) hb)
        have n9_ := zA (zlq (g := gb528) (o := .cells #[.int .u64 t525, .int .u64 t526] 24 (0, 0)) (by (with_reducible repeat (first | refine zgq ?_ _ | refine zhq ?_ | refine ziq ?_ _)); exact BK528.out) hb)
        have n10_ := zA (zeq (by repeat (first | (with_reducible first | exact HB.out | apply zaq | apply zbq | apply zcq | refine zdq ?_ GE508.out | refine zdq ?_ GE509.out | refine zdq ?_ GE520.out | refine zdq ?_ GE528.out) | exact HB.out)) hb)
        clear HO513
        clear HO516
        clear HO524
        clear HO532
        clear HO539
        clear BK508
        clear BK509
        clear BK520
        clear BK528
        clear HB
        have HO513 := n0_
        have HO516 := n1_
        have HO524 := n2_
        have HO532 := n3_
        have HO539 := n4_
        have HO542 := n5_
        have BK508 := n6_
        have BK509 := n7_
        have BK520 := n8_
        have BK528 := n9_
        have HB := n10_
        clear n0_ n1_ n2_ n3_ n4_ n5_ n6_ n7_ n8_ n9_ n10_
        (try clear hb)
        (try clear hb2)
        (try clear hk)
        (try clear hi)
        (try clear ho0)
        obtain ⟨Ao65, co65, eo65⟩ := Kd.R_slice HO539.out
        (first | subst eo65 | (injection eo65 with f1_ f2_ f3_; have f4_ := f1_.symm; have f5_ := f3_.symm; clear f1_ f2_ f3_; subst f4_; subst f5_))
        obtain ⟨Ao66, co66, eo66⟩ := Kd.R_slice HO542.out
        (first | subst eo66 | (injection eo66 with f1_ f2_ f3_; have f4_ := f1_.symm; have f5_ := f3_.symm; clear f1_ f2_ f3_; subst f4_; subst f5_))
        refine hK.out _ _ ⟨(zmq BK508.out 0).trans rfl, (zmq BK508.out 1).trans rfl, (zmq BK509.out 0).trans rfl, (zmq BK509.out 1).trans rfl⟩ (fun hHeld => ?_)
        clear hK K
        refine norm_ (a' := ?_) ?_ ?_
        rotate_left
        ·
         show Act.put _ (some 66) _ = _
         simp only [Act.put, List.setIfInBounds_toArray, List.set_cons_zero, List.set_cons_succ, i64_w, i32_w]
         rfl
        refine one_ (i := 11) (N := some 67) #[true, true, true, true, true, true, true, true, true, true, true, true, false, false] rfl rfl (one_of HT_.out (by kernel_rfl)) (by decide) (fun K hK => ?_)
        refine goes_ Try.func47 (by kernel_rfl) rfl #[.slice Ao65 t537.length co65, .slice Ao66 t540.length co66] (by rfl) rfl rfl (by (try simp only [List.map_toArray, List.map_cons, List.map_nil]); first | done | rfl | (simp only [List.length_drop, List.length_take]; rfl)) ?_
        with_reducible refine (tabardref1_Times.calls k _ _ t537 _ _ t540 t543 _ ?side1 ?side2 ?side3 ?side4 A16.out).mono ?_
        (case side1 => repeat (first | exact (Kd.R_reads' HO539.out).2.2 | (with_reducible refine Kd.C_alloc ?_ _) | (with_reducible refine Kd.C_drewN ?_ _) | (with_reducible refine Kd.C_drew ?_)))
        (case side2 => exact (Kd.R_reads' HO539.out).2.1)
        (case side3 => repeat (first | exact (Kd.R_reads' HO542.out).2.2 | (with_reducible refine Kd.C_alloc ?_ _) | (with_reducible refine Kd.C_drewN ?_ _) | (with_reducible refine Kd.C_drew ?_)))
        (case side4 => exact (Kd.R_reads' HO542.out).2.1)
        rintro e w67 ⟨v544, rfl, ho0, hb⟩
        refine ⟨_, rfl, ?_⟩
        have n0_ := zA (Kd.R_elder' (by (with_reducible repeat (first | apply Kd.R_alloc | apply Kd.R_drewN | apply Kd.R_drew)); exact HO513.out) (Kd.R_base ho0) hb)
        have n1_ := zA (Kd.R_elder' (by (with_reducible repeat (first | apply Kd.R_alloc | apply Kd.R_drewN | apply Kd.R_drew)); exact HO516.out) (Kd.R_base ho0) hb)
        have n2_ := zA (Kd.R_elder' (by (with_reducible repeat (first | apply Kd.R_alloc | apply Kd.R_drewN | apply Kd.R_drew)); exact HO524.out) (Kd.R_base ho0) hb)
        have n3_ := zA (Kd.R_elder' (by (with_reducible repeat (first | apply Kd.R_alloc | apply Kd.R_drewN | apply Kd.R_drew)); exact HO532.out) (Kd.R_base ho0) hb)
        have n4_ := zA (Kd.R_elder' (by (with_reducible repeat (first | apply Kd.R_alloc | apply Kd.R_drewN | apply Kd.R_drew)); exact HO539.out) (Kd.R_base ho0) hb)
        have n5_ := zA (Kd.R_elder' (by (with_reducible repeat (first | apply Kd.R_alloc | apply Kd.R_drewN | apply Kd.R_drew)); exact HO542.out) (Kd.R_base ho0) hb)
        have n6_ := zA (Kd.R_lower (Kd.R_new' (Kd.R_new' (Kd.R_new' (Kd.R_new' (Kd.R_new' (Kd.R_new' ho0 (Kd.R_lt (by (with_reducible repeat (first | apply Kd.R_alloc | apply Kd.R_drewN | apply Kd.R_drew)); exact HO513.out))) (Kd.R_lt (by (with_reducible repeat (first | apply Kd.R_alloc | apply Kd.R_drewN | apply Kd.R_drew)); exact HO516.out))) (Kd.R_lt (by (with_reducible repeat (first | apply Kd.R_alloc | apply Kd.R_drewN | apply Kd.R_drew)); exact HO524.out))) (Kd.R_lt (by (with_reducible repeat (first | apply Kd.R_alloc | apply Kd.R_drewN | apply Kd.R_drew)); exact HO532.out))) (Kd.R_lt (by (with_reducible repeat (first | apply Kd.R_alloc | apply Kd.R_drewN | apply Kd.R_drew)); exact HO539.out))) (Kd.R_lt (by (with_reducible repeat (first | apply Kd.R_alloc | apply Kd.R_drewN | apply Kd.R_drew)); exact HO542.out))) (zfq (by repeat (first | (with_reducible first | exact HB.out | apply zaq | apply zbq | apply zcq | refine zdq ?_ GE508.out | refine zdq ?_ GE509.out | refine zdq ?_ GE520.out | refine zdq ?_ GE528.out) | exact HB.out))))
        have n7_ := zA (zlq (g := gb508) (o := .cells #[.int .u64 a0_0, .int .u64 a0_1] 24 (0, 0)) (by (with_reducible repeat (first | refine zgq ?_ _ | refine zhq ?_ | refine ziq ?_ _)); exact BK508.out) hb)
        have n8_ := zA (zlq (g := gb509) (o := .cells #[.int .u64 a1_0, .int .u64 a1_1] 24 (0, 0)) (by (with_reducible repeat (first | refine zgq ?_ _ | refine zhq ?_ | refine ziq ?_ _)); exact BK509.out) hb)
        have n9_ := zA (zlq (g := gb520) (o := .cells #[.int .u64 t517, .int .u64 t518] 24 (0, 0)) (by (with_reducible repeat (first | refine zgq ?_ _ | refine zhq ?_ | refine ziq ?_ _)); exact BK520.out) hb)
        have n10_ := zA (zlq (g := gb528) (o := .cells #[.int .u64 t525, .int .u64 t526] 24 (0, 0)) (by (with_reducible repeat (first | refine zgq ?_ _ | refine zhq ?_ | refine ziq ?_ _)); exact BK528.out) hb)
        have n11_ := zA (zeq (by repeat (first | (with_reducible first | exact HB.out | apply zaq | apply zbq | apply zcq | refine zdq ?_ GE508.out | refine zdq ?_ GE509.out | refine zdq ?_ GE520.out | refine zdq ?_ GE528.out) | exact HB.out)) hb)
        clear HO513
        clear HO516
        clear HO524
        clear HO532
        clear HO539
        clear HO542
        clear BK508
        clear BK509
        clear BK520
        clear BK528
        clear HB
        have HO513 := n0_
        have HO516 := n1_
        have HO524 := n2_
        have HO532 := n3_
        have HO539 := n4_
        have HO542 := n5_
        have HO545 := n6_
        have BK508 := n7_
        have BK509 := n8_
        have BK520 := n9_
        have BK528 := n10_
        have HB := n11_
        clear n0_ n1_ n2_ n3_ n4_ n5_ n6_ n7_ n8_ n9_ n10_ n11_
        (try clear hb)
        (try clear hb2)
        (try clear hk)
        (try clear hi)
        (try clear ho0)
        obtain ⟨Ao68, co68, eo68⟩ := Kd.R_slice HO545.out
        (first | subst eo68 | (injection eo68 with f1_ f2_ f3_; have f4_ := f1_.symm; have f5_ := f3_.symm; clear f1_ f2_ f3_; subst f4_; subst f5_))
        refine hK.out _ _ ⟨(zmq BK508.out 0).trans rfl, (zmq BK508.out 1).trans rfl, (zmq BK509.out 0).trans rfl, (zmq BK509.out 1).trans rfl⟩ (fun hHeld => ?_)
        clear hK K
        refine norm_ (a' := ?_) ?_ ?_
        rotate_left
        ·
         show Act.put _ (some 67) _ = _
         simp only [Act.put, List.setIfInBounds_toArray, List.set_cons_zero, List.set_cons_succ, i64_w, i32_w]
         rfl
        refine one_ (i := 12) (N := some 68) #[true, true, true, true, true, true, true, true, true, true, true, true, true, false] rfl rfl (one_of HT_.out (by kernel_rfl)) (by decide) (fun K hK => ?_)
        refine goes_ Try.func45 (by kernel_rfl) rfl #[.agg #[.int .u64 t535, .int .u64 t536], .slice Ao68 t543.length co68] (by rfl) rfl rfl (by (try simp only [List.map_toArray, List.map_cons, List.map_nil]); first | done | rfl | (simp only [List.length_drop, List.length_take]; rfl)) ?_
        with_reducible refine (tabardlaw2_is.calls k t535 t536 _ _ t543 true _ ?side1 ?side2 A17.out).mono ?_
        (case side1 => repeat (first | exact (Kd.R_reads' HO545.out).2.2 | (with_reducible refine Kd.C_alloc ?_ _) | (with_reducible refine Kd.C_drewN ?_ _) | (with_reducible refine Kd.C_drew ?_)))
        (case side2 => exact (Kd.R_reads' HO545.out).2.1)
        rintro e w69 ⟨rfl, hb⟩
        refine ⟨_, rfl, ?_⟩
        have n0_ := zA (Kd.R_below (by (with_reducible repeat (first | apply Kd.R_alloc | apply Kd.R_drewN | apply Kd.R_drew)); exact HO513.out) hb)
        have n1_ := zA (Kd.R_below (by (with_reducible repeat (first | apply Kd.R_alloc | apply Kd.R_drewN | apply Kd.R_drew)); exact HO516.out) hb)
        have n2_ := zA (Kd.R_below (by (with_reducible repeat (first | apply Kd.R_alloc | apply Kd.R_drewN | apply Kd.R_drew)); exact HO524.out) hb)
        have n3_ := zA (Kd.R_below (by (with_reducible repeat (first | apply Kd.R_alloc | apply Kd.R_drewN | apply Kd.R_drew)); exact HO532.out) hb)
        have n4_ := zA (Kd.R_below (by (with_reducible repeat (first | apply Kd.R_alloc | apply Kd.R_drewN | apply Kd.R_drew)); exact HO539.out) hb)
        have n5_ := zA (Kd.R_below (by (with_reducible repeat (first | apply Kd.R_alloc | apply Kd.R_drewN | apply Kd.R_drew)); exact HO542.out) hb)
        have n6_ := zA (Kd.R_below (by (with_reducible repeat (first | apply Kd.R_alloc | apply Kd.R_drewN | apply Kd.R_drew)); exact HO545.out) hb)
        have n7_ := zA (zlq (g := gb508) (o := .cells #[.int .u64 a0_0, .int .u64 a0_1] 24 (0, 0)) (by (with_reducible repeat (first | refine zgq ?_ _ | refine zhq ?_ | refine ziq ?_ _)); exact BK508.out) hb)
        have n8_ := zA (zlq (g := gb509) (o := .cells #[.int .u64 a1_0, .int .u64 a1_1] 24 (0, 0)) (by (with_reducible repeat (first | refine zgq ?_ _ | refine zhq ?_ | refine ziq ?_ _)); exact BK509.out) hb)
        have n9_ := zA (zlq (g := gb520) (o := .cells #[.int .u64 t517, .int .u64 t518] 24 (0, 0)) (by (with_reducible repeat (first | refine zgq ?_ _ | refine zhq ?_ | refine ziq ?_ _)); exact BK520.out) hb)
        have n10_ := zA (zlq (g := gb528) (o := .cells #[.int .u64 t525, .int .u64 t526] 24 (0, 0)) (by (with_reducible repeat (first | refine zgq ?_ _ | refine zhq ?_ | refine ziq ?_ _)); exact BK528.out) hb)
        have n11_ := zA (zeq (by repeat (first | (with_reducible first | exact HB.out | apply zaq | apply zbq | apply zcq | refine zdq ?_ GE508.out | refine zdq ?_ GE509.out | refine zdq ?_ GE520.out | refine zdq ?_ GE528.out) | exact HB.out)) hb)
        clear HO513
        clear HO516
        clear HO524
        clear HO532
        clear HO539
        clear HO542
        clear HO545
        clear BK508
        clear BK509
        clear BK520
        clear BK528
        clear HB
        have HO513 := n0_
        have HO516 := n1_
        have HO524 := n2_
        have HO532 := n3_
        have HO539 := n4_
        have HO542 := n5_
        have HO545 := n6_
        have BK508 := n7_
        have BK509 := n8_
        have BK520 := n9_
        have BK528 := n10_
        have HB := n11_
        clear n0_ n1_ n2_ n3_ n4_ n5_ n6_ n7_ n8_ n9_ n10_ n11_
        (try clear hb)
        (try clear hb2)
        (try clear hk)
        (try clear hi)
        refine hK.out _ _ ⟨(zmq BK508.out 0).trans rfl, (zmq BK508.out 1).trans rfl, (zmq BK509.out 0).trans rfl, (zmq BK509.out 1).trans rfl⟩ (fun hHeld => ?_)
        clear hK K
        refine norm_ (a' := ?_) ?_ ?_
        rotate_left
        ·
         show Act.put _ (some 68) _ = _
         simp only [Act.put, List.setIfInBounds_toArray, List.set_cons_zero, List.set_cons_succ, i64_w, i32_w]
         rfl
        refine pure_ (i := 13) (N := some 18) (v := ?_) (a' := ?_) #[true, true, true, true, true, true, true, true, true, true, true, true, true, true] rfl rfl (any_of HT_.out (by kernel_rfl)) (fun _ _ _ h => h) (Or.inl ⟨by rfl, ?_⟩) ?_ ?_
        rotate_left
        ·
         intro w'
         go_simp
         with_reducible rfl
        rotate_left
        ·
         simp only [Act.put, List.setIfInBounds_toArray, List.set_cons_zero, List.set_cons_succ, i64_w, i32_w]
         rfl
        refine done_ (done_of HT_.out (by kernel_rfl)) ?_
        have hcz70_0 : w69.cell? ⟨gb508, 0, none⟩ = some (.int .u64 a0_0) := (zmq BK508.out 0).trans rfl
        have hcz70_1 : w69.cell? ⟨gb508, 1, none⟩ = some (.int .u64 a0_1) := (zmq BK508.out 1).trans rfl
        have hfz70_0 := znq BK508.out 0
        have hfz70_1 := znq BK508.out 1
        have hcz71_0 : w69.cell? ⟨gb509, 0, none⟩ = some (.int .u64 a1_0) := (zmq BK509.out 0).trans rfl
        have hcz71_1 : w69.cell? ⟨gb509, 1, none⟩ = some (.int .u64 a1_1) := (zmq BK509.out 1).trans rfl
        have hfz71_0 := znq BK509.out 0
        have hfz71_1 := znq BK509.out 1
        try go_wp2_with (first | ((with_reducible refine zoq (f := 27) rfl ?_); refine goesL_ (some 71) rfl rfl Try.func27 (by kernel_rfl) rfl #[.agg #[.int .u64 a0_0, .int .u64 a0_1], .agg #[.int .u64 a1_0, .int .u64 a1_1]] rfl (by (try simp only [List.map_toArray, List.map_cons, List.map_nil]); first | done | rfl | (simp only [List.length_drop, List.length_take]; rfl)) ?_; (with_reducible refine (wide_Cmp.calls a0_0 a0_1 a1_0 a1_1 t547 _ A18.out).mono ?_); rintro e w72 ⟨rfl, hb⟩; refine ⟨_, rfl, ?_⟩; have n0_ := zA (Kd.R_below (by (with_reducible repeat (first | apply Kd.R_alloc | apply Kd.R_drewN | apply Kd.R_drew)); exact HO513.out) hb); have n1_ := zA (Kd.R_below (by (with_reducible repeat (first | apply Kd.R_alloc | apply Kd.R_drewN | apply Kd.R_drew)); exact HO516.out) hb); have n2_ := zA (Kd.R_below (by (with_reducible repeat (first | apply Kd.R_alloc | apply Kd.R_drewN | apply Kd.R_drew)); exact HO524.out) hb); have n3_ := zA (Kd.R_below (by (with_reducible repeat (first | apply Kd.R_alloc | apply Kd.R_drewN | apply Kd.R_drew)); exact HO532.out) hb); have n4_ := zA (Kd.R_below (by (with_reducible repeat (first | apply Kd.R_alloc | apply Kd.R_drewN | apply Kd.R_drew)); exact HO539.out) hb); have n5_ := zA (Kd.R_below (by (with_reducible repeat (first | apply Kd.R_alloc | apply Kd.R_drewN | apply Kd.R_drew)); exact HO542.out) hb); have n6_ := zA (Kd.R_below (by (with_reducible repeat (first | apply Kd.R_alloc | apply Kd.R_drewN | apply Kd.R_drew)); exact HO545.out) hb); have n7_ := zA (zlq (g := gb508) (o := .cells #[.int .u64 a0_0, .int .u64 a0_1] 24 (0, 0)) (by (with_reducible repeat (first | refine zgq ?_ _ | refine zhq ?_ | refine ziq ?_ _)); exact BK508.out) hb); have n8_ := zA (zlq (g := gb509) (o := .cells #[.int .u64 a1_0, .int .u64 a1_1] 24 (0, 0)) (by (with_reducible repeat (first | refine zgq ?_ _ | refine zhq ?_ | refine ziq ?_ _)); exact BK509.out) hb); have n9_ := zA (zlq (g := gb520) (o := .cells #[.int .u64 t517, .int .u64 t518] 24 (0, 0)) (by (with_reducible repeat (first | refine zgq ?_ _ | refine zhq ?_ | refine ziq ?_ _)); exact BK520.out) hb); have n10_ := zA (zlq (g := gb528) (o := .cells #[.int .u64 t525, .int .u64 t526] 24 (0, 0)) (by (with_reducible repeat (first | refine zgq ?_ _ | refine zhq ?_ | refine ziq ?_ _)); exact BK528.out) hb); have n11_ := zA (zeq (by repeat (first | (with_reducible first | exact HB.out | apply zaq | apply zbq | apply zcq | refine zdq ?_ GE508.out | refine zdq ?_ GE509.out | refine zdq ?_ GE520.out | refine zdq ?_ GE528.out) | exact HB.out)) hb); clear HO513; clear HO516; clear HO524; clear HO532; clear HO539; clear HO542; clear HO545; clear BK508; clear BK509; clear BK520; clear BK528; clear HB; have HO513 := n0_; have HO516 := n1_; have HO524 := n2_; have HO532 := n3_; have HO539 := n4_; have HO542 := n5_; have HO545 := n6_; have BK508 := n7_; have BK509 := n8_; have BK520 := n9_; have BK528 := n10_; have HB := n11_; clear n0_ n1_ n2_ n3_ n4_ n5_ n6_ n7_ n8_ n9_ n10_ n11_; (try clear hb); (try clear hb2); (try clear hk); (try clear hi)) | ((with_reducible refine zoq (f := 48) rfl ?_); refine goesL_ (some 74) rfl rfl Try.func48 (by kernel_rfl) rfl #[.slice Ao43 t511.length co43, .slice Ao44 t514.length co44] rfl (by (try simp only [List.map_toArray, List.map_cons, List.map_nil]); first | done | rfl | (simp only [List.length_drop, List.length_take]; rfl)) ?_; (with_reducible refine (tabardref1_Cmp.calls k _ _ t511 _ _ t514 t548 _ ?side1 ?side2 ?side3 ?side4 A19.out).mono ?_); (case side1 => repeat (first | exact (Kd.R_reads' HO513.out).2.2 | (with_reducible refine Kd.C_alloc ?_ _) | (with_reducible refine Kd.C_drewN ?_ _) | (with_reducible refine Kd.C_drew ?_))); (case side2 => exact (Kd.R_reads' HO513.out).2.1); (case side3 => repeat (first | exact (Kd.R_reads' HO516.out).2.2 | (with_reducible refine Kd.C_alloc ?_ _) | (with_reducible refine Kd.C_drewN ?_ _) | (with_reducible refine Kd.C_drew ?_))); (case side4 => exact (Kd.R_reads' HO516.out).2.1); rintro e w73 ⟨rfl, hb⟩; refine ⟨_, rfl, ?_⟩; have n0_ := zA (Kd.R_below (by (with_reducible repeat (first | apply Kd.R_alloc | apply Kd.R_drewN | apply Kd.R_drew)); exact HO513.out) hb); have n1_ := zA (Kd.R_below (by (with_reducible repeat (first | apply Kd.R_alloc | apply Kd.R_drewN | apply Kd.R_drew)); exact HO516.out) hb); have n2_ := zA (Kd.R_below (by (with_reducible repeat (first | apply Kd.R_alloc | apply Kd.R_drewN | apply Kd.R_drew)); exact HO524.out) hb); have n3_ := zA (Kd.R_below (by (with_reducible repeat (first | apply Kd.R_alloc | apply Kd.R_drewN | apply Kd.R_drew)); exact HO532.out) hb); have n4_ := zA (Kd.R_below (by (with_reducible repeat (first | apply Kd.R_alloc | apply Kd.R_drewN | apply Kd.R_drew)); exact HO539.out) hb); have n5_ := zA (Kd.R_below (by (with_reducible repeat (first | apply Kd.R_alloc | apply Kd.R_drewN | apply Kd.R_drew)); exact HO542.out) hb); have n6_ := zA (Kd.R_below (by (with_reducible repeat (first | apply Kd.R_alloc | apply Kd.R_drewN | apply Kd.R_drew)); exact HO545.out) hb); have n7_ := zA (zlq (g := gb508) (o := .cells #[.int .u64 a0_0, .int .u64 a0_1] 24 (0, 0)) (by (with_reducible repeat (first | refine zgq ?_ _ | refine zhq ?_ | refine ziq ?_ _)); exact BK508.out) hb); have n8_ := zA (zlq (g := gb509) (o := .cells #[.int .u64 a1_0, .int .u64 a1_1] 24 (0, 0)) (by (with_reducible repeat (first | refine zgq ?_ _ | refine zhq ?_ | refine ziq ?_ _)); exact BK509.out) hb); have n9_ := zA (zlq (g := gb520) (o := .cells #[.int .u64 t517, .int .u64 t518] 24 (0, 0)) (by (with_reducible repeat (first | refine zgq ?_ _ | refine zhq ?_ | refine ziq ?_ _)); exact BK520.out) hb); have n10_ := zA (zlq (g := gb528) (o := .cells #[.int .u64 t525, .int .u64 t526] 24 (0, 0)) (by (with_reducible repeat (first | refine zgq ?_ _ | refine zhq ?_ | refine ziq ?_ _)); exact BK528.out) hb); have n11_ := zA (zeq (by repeat (first | (with_reducible first | exact HB.out | apply zaq | apply zbq | apply zcq | refine zdq ?_ GE508.out | refine zdq ?_ GE509.out | refine zdq ?_ GE520.out | refine zdq ?_ GE528.out) | exact HB.out)) hb); clear HO513; clear HO516; clear HO524; clear HO532; clear HO539; clear HO542; clear HO545; clear BK508; clear BK509; clear BK520; clear BK528; clear HB; have HO513 := n0_; have HO516 := n1_; have HO524 := n2_; have HO532 := n3_; have HO539 := n4_; have HO542 := n5_; have HO545 := n6_; have BK508 := n7_; have BK509 := n8_; have BK520 := n9_; have BK528 := n10_; have HB := n11_; clear n0_ n1_ n2_ n3_ n4_ n5_ n6_ n7_ n8_ n9_ n10_ n11_; (try clear hb); (try clear hb2); (try clear hk); (try clear hi); have hcz74_0 : w73.cell? ⟨gb508, 0, none⟩ = some (.int .u64 a0_0) := (zmq BK508.out 0).trans rfl; have hcz74_1 : w73.cell? ⟨gb508, 1, none⟩ = some (.int .u64 a0_1) := (zmq BK508.out 1).trans rfl; have hfz74_0 := znq BK508.out 0; have hfz74_1 := znq BK508.out 1) | (go_at_call 49; (with_reducible refine (wide_Len.calls k a0_0 a0_1 t549 _ A26.out).mono ?_); rintro e w75 ⟨rfl, hb⟩; have n0_ := zA (Kd.R_below (by (with_reducible repeat (first | apply Kd.R_alloc | apply Kd.R_drewN | apply Kd.R_drew)); exact HO513.out) hb); have n1_ := zA (Kd.R_below (by (with_reducible repeat (first | apply Kd.R_alloc | apply Kd.R_drewN | apply Kd.R_drew)); exact HO516.out) hb); have n2_ := zA (Kd.R_below (by (with_reducible repeat (first | apply Kd.R_alloc | apply Kd.R_drewN | apply Kd.R_drew)); exact HO524.out) hb); have n3_ := zA (Kd.R_below (by (with_reducible repeat (first | apply Kd.R_alloc | apply Kd.R_drewN | apply Kd.R_drew)); exact HO532.out) hb); have n4_ := zA (Kd.R_below (by (with_reducible repeat (first | apply Kd.R_alloc | apply Kd.R_drewN | apply Kd.R_drew)); exact HO539.out) hb); have n5_ := zA (Kd.R_below (by (with_reducible repeat (first | apply Kd.R_alloc | apply Kd.R_drewN | apply Kd.R_drew)); exact HO542.out) hb); have n6_ := zA (Kd.R_below (by (with_reducible repeat (first | apply Kd.R_alloc | apply Kd.R_drewN | apply Kd.R_drew)); exact HO545.out) hb); have n7_ := zA (zlq (g := gb508) (o := .cells #[.int .u64 a0_0, .int .u64 a0_1] 24 (0, 0)) (by (with_reducible repeat (first | refine zgq ?_ _ | refine zhq ?_ | refine ziq ?_ _)); exact BK508.out) hb); have n8_ := zA (zlq (g := gb509) (o := .cells #[.int .u64 a1_0, .int .u64 a1_1] 24 (0, 0)) (by (with_reducible repeat (first | refine zgq ?_ _ | refine zhq ?_ | refine ziq ?_ _)); exact BK509.out) hb); have n9_ := zA (zlq (g := gb520) (o := .cells #[.int .u64 t517, .int .u64 t518] 24 (0, 0)) (by (with_reducible repeat (first | refine zgq ?_ _ | refine zhq ?_ | refine ziq ?_ _)); exact BK520.out) hb); have n10_ := zA (zlq (g := gb528) (o := .cells #[.int .u64 t525, .int .u64 t526] 24 (0, 0)) (by (with_reducible repeat (first | refine zgq ?_ _ | refine zhq ?_ | refine ziq ?_ _)); exact BK528.out) hb); have n11_ := zA (zeq (by repeat (first | (with_reducible first | exact HB.out | apply zaq | apply zbq | apply zcq | refine zdq ?_ GE508.out | refine zdq ?_ GE509.out | refine zdq ?_ GE520.out | refine zdq ?_ GE528.out) | exact HB.out)) hb); clear HO513; clear HO516; clear HO524; clear HO532; clear HO539; clear HO542; clear HO545; clear BK508; clear BK509; clear BK520; clear BK528; clear HB; have HO513 := n0_; have HO516 := n1_; have HO524 := n2_; have HO532 := n3_; have HO539 := n4_; have HO542 := n5_; have HO545 := n6_; have BK508 := n7_; have BK509 := n8_; have BK520 := n9_; have BK528 := n10_; have HB := n11_; clear n0_ n1_ n2_ n3_ n4_ n5_ n6_ n7_ n8_ n9_ n10_ n11_; (try clear hb); (try clear hb2); (try clear hk); (try clear hi)) | (go_at_call 50; (with_reducible refine (tabardref1_Len.calls k _ _ t511 t550 _ ?side1 ?side2 A27.out).mono ?_); (case side1 => repeat (first | exact (Kd.R_reads' HO513.out).2.2 | (with_reducible refine Kd.C_alloc ?_ _) | (with_reducible refine Kd.C_drewN ?_ _) | (with_reducible refine Kd.C_drew ?_))); (case side2 => exact (Kd.R_reads' HO513.out).2.1); rintro e w76 ⟨rfl, hb⟩; have n0_ := zA (Kd.R_below (by (with_reducible repeat (first | apply Kd.R_alloc | apply Kd.R_drewN | apply Kd.R_drew)); exact HO513.out) hb); have n1_ := zA (Kd.R_below (by (with_reducible repeat (first | apply Kd.R_alloc | apply Kd.R_drewN | apply Kd.R_drew)); exact HO516.out) hb); have n2_ := zA (Kd.R_below (by (with_reducible repeat (first | apply Kd.R_alloc | apply Kd.R_drewN | apply Kd.R_drew)); exact HO524.out) hb); have n3_ := zA (Kd.R_below (by (with_reducible repeat (first | apply Kd.R_alloc | apply Kd.R_drewN | apply Kd.R_drew)); exact HO532.out) hb); have n4_ := zA (Kd.R_below (by (with_reducible repeat (first | apply Kd.R_alloc | apply Kd.R_drewN | apply Kd.R_drew)); exact HO539.out) hb); have n5_ := zA (Kd.R_below (by (with_reducible repeat (first | apply Kd.R_alloc | apply Kd.R_drewN | apply Kd.R_drew)); exact HO542.out) hb); have n6_ := zA (Kd.R_below (by (with_reducible repeat (first | apply Kd.R_alloc | apply Kd.R_drewN | apply Kd.R_drew)); exact HO545.out) hb); have n7_ := zA (zlq (g := gb508) (o := .cells #[.int .u64 a0_0, .int .u64 a0_1] 24 (0, 0)) (by (with_reducible repeat (first | refine zgq ?_ _ | refine zhq ?_ | refine ziq ?_ _)); exact BK508.out) hb); have n8_ := zA (zlq (g := gb509) (o := .cells #[.int .u64 a1_0, .int .u64 a1_1] 24 (0, 0)) (by (with_reducible repeat (first | refine zgq ?_ _ | refine zhq ?_ | refine ziq ?_ _)); exact BK509.out) hb); have n9_ := zA (zlq (g := gb520) (o := .cells #[.int .u64 t517, .int .u64 t518] 24 (0, 0)) (by (with_reducible repeat (first | refine zgq ?_ _ | refine zhq ?_ | refine ziq ?_ _)); exact BK520.out) hb); have n10_ := zA (zlq (g := gb528) (o := .cells #[.int .u64 t525, .int .u64 t526] 24 (0, 0)) (by (with_reducible repeat (first | refine zgq ?_ _ | refine zhq ?_ | refine ziq ?_ _)); exact BK528.out) hb); have n11_ := zA (zeq (by repeat (first | (with_reducible first | exact HB.out | apply zaq | apply zbq | apply zcq | refine zdq ?_ GE508.out | refine zdq ?_ GE509.out | refine zdq ?_ GE520.out | refine zdq ?_ GE528.out) | exact HB.out)) hb); clear HO513; clear HO516; clear HO524; clear HO532; clear HO539; clear HO542; clear HO545; clear BK508; clear BK509; clear BK520; clear BK528; clear HB; have HO513 := n0_; have HO516 := n1_; have HO524 := n2_; have HO532 := n3_; have HO539 := n4_; have HO542 := n5_; have HO545 := n6_; have BK508 := n7_; have BK509 := n8_; have BK520 := n9_; have BK528 := n10_; have HB := n11_; clear n0_ n1_ n2_ n3_ n4_ n5_ n6_ n7_ n8_ n9_ n10_ n11_; (try clear hb); (try clear hb2); (try clear hk); (try clear hi)))
        go_ret
        exact ⟨by first | rfl | (simp [errW_none, errW_some] <;> rfl) | (simp [*, errW_none, errW_some] <;> rfl), by repeat (first | (with_reducible first | exact HB.out | apply zaq | apply zbq | apply zcq | refine zdq ?_ GE508.out | refine zdq ?_ GE509.out | refine zdq ?_ GE520.out | refine zdq ?_ GE528.out) | exact HB.out)⟩
       ·
        replace c25 := Bool.eq_false_iff.mpr c25
        subst c25
        have H1 : (none) = some r := by rw [if_neg (show ¬ (false = true) by decide)] at H; exact H
        clear H
        have H := H1
        clear H1
        exact absurd H (by simp)
      ·
       rw [if_neg c24] at H
       exact absurd H (by simp)
     ·
      replace c23 := Bool.eq_false_iff.mpr c23
      subst c23
      have H1 : (none) = some r := by rw [if_neg (show ¬ (false = true) by decide)] at H; exact H
      clear H
      have H := H1
      clear H1
      exact absurd H (by simp)
    ·
     rw [if_neg c22] at H
     exact absurd H (by simp)
   ·
    replace c21 := Bool.eq_false_iff.mpr c21
    subst c21
    have H1 : (none) = some r := by rw [if_neg (show ¬ (false = true) by decide)] at H; exact H
    clear H
    have H := H1
    clear H1
    exact absurd H (by simp)
  ·
   rw [if_neg c20] at H
   exact absurd H (by simp)
 ·
  replace c4 := Bool.eq_false_iff.mpr c4
  subst c4
  have H1 : (none) = some r := by rw [if_neg (show ¬ (false = true) by decide)] at H; exact H
  clear H
  have H := H1
  clear H1
  exact absurd H (by simp)

end Go.Proofs.Ytbejjlecpcphoaa.P
