-- Written by a program of this session's (a turned print), not by hand.
import Derived.Test.YtbejjlecpcphoaaPx0
import Derived.Test.YtbejjlecpcphoaaPx1
import Derived.Test.YtbejjlecpcphoaaPx5
import Derived.Test.YtbejjlecpcphoaaPx6
import Derived.Test.YtbejjlecpcphoaaPx15
import Derived.Test.YtbejjlecpcphoaaPx31
import Derived.Test.YtbejjlecpcphoaaPx32
import Derived.Test.YtbejjlecpcphoaaPx33
import Derived.Test.YtbejjlecpcphoaaPx34
import Derived.Test.YtbejjlecpcphoaaPx35
import Derived.Test.YtbejjlecpcphoaaPx38
namespace Go.Proofs.Ytbejjlecpcphoaa.P
open Go.RowKit Go.Proofs.YtbejjlecpcphoaaW.PrintWords Go.Proofs.YtbejjlecpcphoaaW.PrintLast Go.Proofs.YtbejjlecpcphoaaW.PrintMore
attribute [local go_sem] max2_int min2_int max_two min_two max_three min_three max_four min_four   -- for this text's walks alone
set_option linter.unusedVariables false
set_option linter.unusedSimpArgs false

attribute [local go_sem high] eqA24
/-! ### tabardlaw2_WideTimes: function 11 -/
def tabardlaw2_WideTimes.f (k : Nat) (a0_0 : Int) (a0_1 : Int) (a1 : Int) (a2_0 : Int) (a2_1 : Int) (a2_2 : Int) (a3 : Int) : Option (Bool) := (tabardlaw2_shown.f k).bind fun t693 => (if t693 = true then ((wide_Times.f a0_0 a0_1 a1).bind fun bt694 => ((tabardlaw2_nat.f k a0_0 a0_1).bind fun t698 => ((tabardref2_Nat.f k 0 0 a1).bind fun t701 => ((tabardref1_Times.f k t698 t701).bind fun t704 => ((wide_Drop.f k a2_0 a2_1 a2_2 a3).bind fun bt707 => ((tabardref2_Nat.f k a2_0 a2_1 a2_2).bind fun t712 => ((tabardref2_Shr.f k t712 a3).bind fun bt715 => ((tabardref2_Part.f k t704 2).bind fun t719 => (if bt694.1 = t719 then ((tabardref2_Part.f k t704 1).bind fun t720 => (if bt694.2.1 = t720 then ((tabardref2_Part.f k t704 0).bind fun t721 => ((tabardref2_Part.f k bt715.1 2).bind fun t722 => (if bt707.1 = t722 then ((tabardref2_Part.f k bt715.1 1).bind fun t723 => (if bt707.2.1 = t723 then ((tabardref2_Part.f k bt715.1 0).bind fun t724 => (if bt694.2.2 = t721 then (if bt707.2.2.1 = t724 then (if (bt707.2.2.2 == bt715.2) = true then ((wide_Low.f a2_0 a2_1 a2_2).bind fun bt725 => (some (bt725.1 == a2_1 && (bt725.2 == a2_2)))) else (none)) else (none)) else (none))) else (if bt694.2.2 = t721 then (none) else (none)))) else (if bt694.2.2 = t721 then (none) else (none))))) else ((tabardref2_Part.f k bt715.1 2).bind fun t727 => (if bt707.1 = t727 then ((tabardref2_Part.f k bt715.1 1).bind fun t728 => (if bt707.2.1 = t728 then ((tabardref2_Part.f k bt715.1 0).bind fun t729 => (none)) else (none))) else (none))))) else ((tabardref2_Part.f k bt715.1 2).bind fun t730 => (if bt707.1 = t730 then ((tabardref2_Part.f k bt715.1 1).bind fun t731 => (if bt707.2.1 = t731 then ((tabardref2_Part.f k bt715.1 0).bind fun t732 => (none)) else (none))) else (none)))))))))))) else (none))
theorem tabardlaw2_WideTimes.mono : ∀ a0 a1 a2 a3 a4 a5 a6 k, LeO (tabardlaw2_WideTimes.f k a0 a1 a2 a3 a4 a5 a6) (tabardlaw2_WideTimes.f (k + 1) a0 a1 a2 a3 a4 a5 a6) := by
 intro a0 a1 a2 a3 a4 a5 a6 k
 unfold tabardlaw2_WideTimes.f
 repeat' first
   | (with_reducible exact tabardlaw2_nat.mono _ _ _)
   | (with_reducible exact tabardlaw2_shown.mono _)
   | (with_reducible exact tabardref1_Times.mono _ _ _)
   | (with_reducible exact tabardref2_Nat.mono _ _ _ _)
   | (with_reducible exact tabardref2_Part.mono _ _ _)
   | (with_reducible exact tabardref2_Shr.mono _ _ _)
   | (with_reducible exact wide_Drop.mono _ _ _ _ _)
   | (with_reducible exact LeO.refl _)
   | (with_reducible exact LeO.none _)
   | (with_reducible refine LeO.ite ?_ ?_)
   | (with_reducible refine LeO.bind ?_ (fun _ => ?_))
   | exact tabardlaw2_nat.mono _ _ _
   | exact tabardlaw2_shown.mono _
   | exact tabardref1_Times.mono _ _ _
   | exact tabardref2_Nat.mono _ _ _ _
   | exact tabardref2_Part.mono _ _ _
   | exact tabardref2_Shr.mono _ _ _
   | exact wide_Drop.mono _ _ _ _ _
   | exact LeO.none _
   | refine LeO.ite ?_ ?_
   | refine LeO.bind ?_ (fun _ => ?_)
def tabardlaw2_WideTimes.T8 : Bool × List (List Nat × List Nat) := (true, [([], []), ([0], [0]), ([], []), ([2], [2]), ([1, 3], [1, 3]), ([4, 3], [4]), ([5], [5]), ([6, 5], [5, 6]), ([5], [5]), ([8, 5, 5], [5, 8]), ([7, 9, 5], [5, 7, 9]), ([5, 10], [5, 10]), ([11, 9], [11]), ([12], [12]), ([13, 12], [12, 13]), ([12], [12]), ([15, 12, 12], [12, 15]), ([14, 16, 12], [12, 14, 16]), ([12, 17], [12, 17]), ([18, 16, 0, 1, 2, 3, 4, 5, 6, 7, 8, 9, 10, 11, 12, 13, 14, 15, 16, 17, 18], [18])])
def tabardlaw2_WideTimes.B8 : List Nat := [0, 1, 0, 4, 15, 31, 63, 127, 63, 319, 1023, 2047, 4095, 8191, 16383, 8191, 40959, 131071, 262143, 524287]
theorem tabardlaw2_WideTimes.tab8 : rtab .any (opsOf Try.f11 8) = tabardlaw2_WideTimes.T8 := by kernel_rfl
theorem tabardlaw2_WideTimes.bits8 : waitsOk tabardlaw2_WideTimes.T8.2 tabardlaw2_WideTimes.B8 = true := by kernel_rfl
def tabardlaw2_WideTimes.T9 : Bool × List (List Nat × List Nat) := (true, [([], []), ([0], [0]), ([], []), ([2], [2]), ([1, 3], [1, 3]), ([4, 3], [4]), ([5], [5]), ([6, 5], [5, 6]), ([5], [5]), ([8, 5, 5], [5, 8]), ([7, 9, 5], [5, 7, 9]), ([5, 10], [5, 10]), ([11, 9], [11]), ([12], [12]), ([13, 12], [12, 13]), ([12], [12]), ([15, 12, 12], [12, 15]), ([14, 16, 12], [12, 14, 16]), ([12, 17], [12, 17]), ([18, 16, 0, 1, 2, 3, 4, 5, 6, 7, 8, 9, 10, 11, 12, 13, 14, 15, 16, 17, 18], [18])])
def tabardlaw2_WideTimes.B9 : List Nat := [0, 1, 0, 4, 15, 31, 63, 127, 63, 319, 1023, 2047, 4095, 8191, 16383, 8191, 40959, 131071, 262143, 524287]
theorem tabardlaw2_WideTimes.tab9 : rtab .any (opsOf Try.f11 9) = tabardlaw2_WideTimes.T9 := by kernel_rfl
theorem tabardlaw2_WideTimes.bits9 : waitsOk tabardlaw2_WideTimes.T9.2 tabardlaw2_WideTimes.B9 = true := by kernel_rfl
def tabardlaw2_WideTimes.T10 : Bool × List (List Nat × List Nat) := (true, [([], []), ([0], [0]), ([1], [1]), ([1, 2], [1, 2]), ([3, 1], [3]), ([4], [4]), ([4], [4]), ([5, 6, 4], [4, 5, 6]), ([4, 7], [4, 7]), ([8, 4], [8]), ([9], [9]), ([10, 9, 9], [9, 10]), ([9], [9]), ([12, 9], [9, 12]), ([9], [9]), ([14, 9], [9, 14]), ([13, 15, 9], [9, 13, 15]), ([11, 16, 9], [9, 11, 16]), ([9, 17], [9, 17]), ([18, 11, 0, 1, 2, 3, 4, 5, 6, 7, 8, 9, 10, 11, 12, 13, 14, 15, 16, 17, 18], [18])])
def tabardlaw2_WideTimes.B10 : List Nat := [0, 1, 3, 7, 15, 31, 31, 127, 255, 511, 1023, 2047, 1023, 5119, 1023, 17407, 62463, 131071, 262143, 524287]
theorem tabardlaw2_WideTimes.tab10 : rtab .any (opsOf Try.f11 10) = tabardlaw2_WideTimes.T10 := by kernel_rfl
theorem tabardlaw2_WideTimes.bits10 : waitsOk tabardlaw2_WideTimes.T10.2 tabardlaw2_WideTimes.B10 = true := by kernel_rfl
set_option maxHeartbeats 8000000 in
set_option maxRecDepth 100000 in
theorem tabardlaw2_WideTimes.calls (k : Nat) (a0_0 : Int) (a0_1 : Int) (a1 : Int) (a2_0 : Int) (a2_1 : Int) (a2_2 : Int) (a3 : Int) (r : Bool) (w : World) (h : tabardlaw2_WideTimes.f k a0_0 a0_1 a1 a2_0 a2_1 a2_2 a3 = some r) :
  Calls Try.prog 11 #[.agg #[.int .u64 a0_0, .int .u64 a0_1], .int .u64 a1, .agg #[.int .u64 a2_0, .int .u64 a2_1, .int .u64 a2_2], .int .i64 a3] w fun e w' => e = .returned (.bool r) ∧ Below w.heap.size w w' := by
 have hu24 := Try.underlying24
 have hu69 := Try.underlying69
 have HB := zA (Below.refl w.heap.size w)
 have H : ((tabardlaw2_shown.f k).bind fun t693 => (if t693 = true then ((wide_Times.f a0_0 a0_1 a1).bind fun bt694 => ((tabardlaw2_nat.f k a0_0 a0_1).bind fun t698 => ((tabardref2_Nat.f k 0 0 a1).bind fun t701 => ((tabardref1_Times.f k t698 t701).bind fun t704 => ((wide_Drop.f k a2_0 a2_1 a2_2 a3).bind fun bt707 => ((tabardref2_Nat.f k a2_0 a2_1 a2_2).bind fun t712 => ((tabardref2_Shr.f k t712 a3).bind fun bt715 => ((tabardref2_Part.f k t704 2).bind fun t719 => (if bt694.1 = t719 then ((tabardref2_Part.f k t704 1).bind fun t720 => (if bt694.2.1 = t720 then ((tabardref2_Part.f k t704 0).bind fun t721 => ((tabardref2_Part.f k bt715.1 2).bind fun t722 => (if bt707.1 = t722 then ((tabardref2_Part.f k bt715.1 1).bind fun t723 => (if bt707.2.1 = t723 then ((tabardref2_Part.f k bt715.1 0).bind fun t724 => (if bt694.2.2 = t721 then (if bt707.2.2.1 = t724 then (if (bt707.2.2.2 == bt715.2) = true then ((wide_Low.f a2_0 a2_1 a2_2).bind fun bt725 => (some (bt725.1 == a2_1 && (bt725.2 == a2_2)))) else (none)) else (none)) else (none))) else (if bt694.2.2 = t721 then (none) else (none)))) else (if bt694.2.2 = t721 then (none) else (none))))) else ((tabardref2_Part.f k bt715.1 2).bind fun t727 => (if bt707.1 = t727 then ((tabardref2_Part.f k bt715.1 1).bind fun t728 => (if bt707.2.1 = t728 then ((tabardref2_Part.f k bt715.1 0).bind fun t729 => (none)) else (none))) else (none))))) else ((tabardref2_Part.f k bt715.1 2).bind fun t730 => (if bt707.1 = t730 then ((tabardref2_Part.f k bt715.1 1).bind fun t731 => (if bt707.2.1 = t731 then ((tabardref2_Part.f k bt715.1 0).bind fun t732 => (none)) else (none))) else (none)))))))))))) else (none))) = some r := h
 clear h
 replace H := Option.bind_eq_some_iff.mp H
 obtain ⟨t693, A50, H⟩ := H
 replace H : (if t693 = true then ((wide_Times.f a0_0 a0_1 a1).bind fun bt694 => ((tabardlaw2_nat.f k a0_0 a0_1).bind fun t698 => ((tabardref2_Nat.f k 0 0 a1).bind fun t701 => ((tabardref1_Times.f k t698 t701).bind fun t704 => ((wide_Drop.f k a2_0 a2_1 a2_2 a3).bind fun bt707 => ((tabardref2_Nat.f k a2_0 a2_1 a2_2).bind fun t712 => ((tabardref2_Shr.f k t712 a3).bind fun bt715 => ((tabardref2_Part.f k t704 2).bind fun t719 => (if bt694.1 = t719 then ((tabardref2_Part.f k t704 1).bind fun t720 => (if bt694.2.1 = t720 then ((tabardref2_Part.f k t704 0).bind fun t721 => ((tabardref2_Part.f k bt715.1 2).bind fun t722 => (if bt707.1 = t722 then ((tabardref2_Part.f k bt715.1 1).bind fun t723 => (if bt707.2.1 = t723 then ((tabardref2_Part.f k bt715.1 0).bind fun t724 => (if bt694.2.2 = t721 then (if bt707.2.2.1 = t724 then (if (bt707.2.2.2 == bt715.2) = true then ((wide_Low.f a2_0 a2_1 a2_2).bind fun bt725 => (some (bt725.1 == a2_1 && (bt725.2 == a2_2)))) else (none)) else (none)) else (none))) else (if bt694.2.2 = t721 then (none) else (none)))) else (if bt694.2.2 = t721 then (none) else (none))))) else ((tabardref2_Part.f k bt715.1 2).bind fun t727 => (if bt707.1 = t727 then ((tabardref2_Part.f k bt715.1 1).bind fun t728 => (if bt707.2.1 = t728 then ((tabardref2_Part.f k bt715.1 0).bind fun t729 => (none)) else (none))) else (none))))) else ((tabardref2_Part.f k bt715.1 2).bind fun t730 => (if bt707.1 = t730 then ((tabardref2_Part.f k bt715.1 1).bind fun t731 => (if bt707.2.1 = t731 then ((tabardref2_Part.f k bt715.1 0).bind fun t732 => (none)) else (none))) else (none)))))))))))) else (none)) = some r := H
 have A5 := zA A50
 clear A50
 by_cases c6 : t693 = true
 ·
  subst c6
  have H1 : ((wide_Times.f a0_0 a0_1 a1).bind fun bt694 => ((tabardlaw2_nat.f k a0_0 a0_1).bind fun t698 => ((tabardref2_Nat.f k 0 0 a1).bind fun t701 => ((tabardref1_Times.f k t698 t701).bind fun t704 => ((wide_Drop.f k a2_0 a2_1 a2_2 a3).bind fun bt707 => ((tabardref2_Nat.f k a2_0 a2_1 a2_2).bind fun t712 => ((tabardref2_Shr.f k t712 a3).bind fun bt715 => ((tabardref2_Part.f k t704 2).bind fun t719 => (if bt694.1 = t719 then ((tabardref2_Part.f k t704 1).bind fun t720 => (if bt694.2.1 = t720 then ((tabardref2_Part.f k t704 0).bind fun t721 => ((tabardref2_Part.f k bt715.1 2).bind fun t722 => (if bt707.1 = t722 then ((tabardref2_Part.f k bt715.1 1).bind fun t723 => (if bt707.2.1 = t723 then ((tabardref2_Part.f k bt715.1 0).bind fun t724 => (if bt694.2.2 = t721 then (if bt707.2.2.1 = t724 then (if (bt707.2.2.2 == bt715.2) = true then ((wide_Low.f a2_0 a2_1 a2_2).bind fun bt725 => (some (bt725.1 == a2_1 && (bt725.2 == a2_2)))) else (none)) else (none)) else (none))) else (if bt694.2.2 = t721 then (none) else (none)))) else (if bt694.2.2 = t721 then (none) else (none))))) else ((tabardref2_Part.f k bt715.1 2).bind fun t727 => (if bt707.1 = t727 then ((tabardref2_Part.f k bt715.1 1).bind fun t728 => (if bt707.2.1 = t728 then ((tabardref2_Part.f k bt715.1 0).bind fun t729 => (none)) else (none))) else (none))))) else ((tabardref2_Part.f k bt715.1 2).bind fun t730 => (if bt707.1 = t730 then ((tabardref2_Part.f k bt715.1 1).bind fun t731 => (if bt707.2.1 = t731 then ((tabardref2_Part.f k bt715.1 0).bind fun t732 => (none)) else (none))) else (none)))))))))))) = some r := by rw [if_pos rfl] at H; exact H
  clear H
  have H := H1
  clear H1
  replace H := Option.bind_eq_some_iff.mp H
  obtain ⟨⟨t694, t695, t696⟩, A70, H⟩ := H
  replace H : ((tabardlaw2_nat.f k a0_0 a0_1).bind fun t698 => ((tabardref2_Nat.f k 0 0 a1).bind fun t701 => ((tabardref1_Times.f k t698 t701).bind fun t704 => ((wide_Drop.f k a2_0 a2_1 a2_2 a3).bind fun bt707 => ((tabardref2_Nat.f k a2_0 a2_1 a2_2).bind fun t712 => ((tabardref2_Shr.f k t712 a3).bind fun bt715 => ((tabardref2_Part.f k t704 2).bind fun t719 => (if t694 = t719 then ((tabardref2_Part.f k t704 1).bind fun t720 => (if t695 = t720 then ((tabardref2_Part.f k t704 0).bind fun t721 => ((tabardref2_Part.f k bt715.1 2).bind fun t722 => (if bt707.1 = t722 then ((tabardref2_Part.f k bt715.1 1).bind fun t723 => (if bt707.2.1 = t723 then ((tabardref2_Part.f k bt715.1 0).bind fun t724 => (if t696 = t721 then (if bt707.2.2.1 = t724 then (if (bt707.2.2.2 == bt715.2) = true then ((wide_Low.f a2_0 a2_1 a2_2).bind fun bt725 => (some (bt725.1 == a2_1 && (bt725.2 == a2_2)))) else (none)) else (none)) else (none))) else (if t696 = t721 then (none) else (none)))) else (if t696 = t721 then (none) else (none))))) else ((tabardref2_Part.f k bt715.1 2).bind fun t727 => (if bt707.1 = t727 then ((tabardref2_Part.f k bt715.1 1).bind fun t728 => (if bt707.2.1 = t728 then ((tabardref2_Part.f k bt715.1 0).bind fun t729 => (none)) else (none))) else (none))))) else ((tabardref2_Part.f k bt715.1 2).bind fun t730 => (if bt707.1 = t730 then ((tabardref2_Part.f k bt715.1 1).bind fun t731 => (if bt707.2.1 = t731 then ((tabardref2_Part.f k bt715.1 0).bind fun t732 => (none)) else (none))) else (none))))))))))) = some r := H
  have A7 := zA A70
  clear A70
  replace H := Option.bind_eq_some_iff.mp H
  obtain ⟨t698, A80, H⟩ := H
  replace H : ((tabardref2_Nat.f k 0 0 a1).bind fun t701 => ((tabardref1_Times.f k t698 t701).bind fun t704 => ((wide_Drop.f k a2_0 a2_1 a2_2 a3).bind fun bt707 => ((tabardref2_Nat.f k a2_0 a2_1 a2_2).bind fun t712 => ((tabardref2_Shr.f k t712 a3).bind fun bt715 => ((tabardref2_Part.f k t704 2).bind fun t719 => (if t694 = t719 then ((tabardref2_Part.f k t704 1).bind fun t720 => (if t695 = t720 then ((tabardref2_Part.f k t704 0).bind fun t721 => ((tabardref2_Part.f k bt715.1 2).bind fun t722 => (if bt707.1 = t722 then ((tabardref2_Part.f k bt715.1 1).bind fun t723 => (if bt707.2.1 = t723 then ((tabardref2_Part.f k bt715.1 0).bind fun t724 => (if t696 = t721 then (if bt707.2.2.1 = t724 then (if (bt707.2.2.2 == bt715.2) = true then ((wide_Low.f a2_0 a2_1 a2_2).bind fun bt725 => (some (bt725.1 == a2_1 && (bt725.2 == a2_2)))) else (none)) else (none)) else (none))) else (if t696 = t721 then (none) else (none)))) else (if t696 = t721 then (none) else (none))))) else ((tabardref2_Part.f k bt715.1 2).bind fun t727 => (if bt707.1 = t727 then ((tabardref2_Part.f k bt715.1 1).bind fun t728 => (if bt707.2.1 = t728 then ((tabardref2_Part.f k bt715.1 0).bind fun t729 => (none)) else (none))) else (none))))) else ((tabardref2_Part.f k bt715.1 2).bind fun t730 => (if bt707.1 = t730 then ((tabardref2_Part.f k bt715.1 1).bind fun t731 => (if bt707.2.1 = t731 then ((tabardref2_Part.f k bt715.1 0).bind fun t732 => (none)) else (none))) else (none)))))))))) = some r := H
  have A8 := zA A80
  clear A80
  replace H := Option.bind_eq_some_iff.mp H
  obtain ⟨t701, A90, H⟩ := H
  replace H : ((tabardref1_Times.f k t698 t701).bind fun t704 => ((wide_Drop.f k a2_0 a2_1 a2_2 a3).bind fun bt707 => ((tabardref2_Nat.f k a2_0 a2_1 a2_2).bind fun t712 => ((tabardref2_Shr.f k t712 a3).bind fun bt715 => ((tabardref2_Part.f k t704 2).bind fun t719 => (if t694 = t719 then ((tabardref2_Part.f k t704 1).bind fun t720 => (if t695 = t720 then ((tabardref2_Part.f k t704 0).bind fun t721 => ((tabardref2_Part.f k bt715.1 2).bind fun t722 => (if bt707.1 = t722 then ((tabardref2_Part.f k bt715.1 1).bind fun t723 => (if bt707.2.1 = t723 then ((tabardref2_Part.f k bt715.1 0).bind fun t724 => (if t696 = t721 then (if bt707.2.2.1 = t724 then (if (bt707.2.2.2 == bt715.2) = true then ((wide_Low.f a2_0 a2_1 a2_2).bind fun bt725 => (some (bt725.1 == a2_1 && (bt725.2 == a2_2)))) else (none)) else (none)) else (none))) else (if t696 = t721 then (none) else (none)))) else (if t696 = t721 then (none) else (none))))) else ((tabardref2_Part.f k bt715.1 2).bind fun t727 => (if bt707.1 = t727 then ((tabardref2_Part.f k bt715.1 1).bind fun t728 => (if bt707.2.1 = t728 then ((tabardref2_Part.f k bt715.1 0).bind fun t729 => (none)) else (none))) else (none))))) else ((tabardref2_Part.f k bt715.1 2).bind fun t730 => (if bt707.1 = t730 then ((tabardref2_Part.f k bt715.1 1).bind fun t731 => (if bt707.2.1 = t731 then ((tabardref2_Part.f k bt715.1 0).bind fun t732 => (none)) else (none))) else (none))))))))) = some r := H
  have A9 := zA A90
  clear A90
  replace H := Option.bind_eq_some_iff.mp H
  obtain ⟨t704, A100, H⟩ := H
  replace H : ((wide_Drop.f k a2_0 a2_1 a2_2 a3).bind fun bt707 => ((tabardref2_Nat.f k a2_0 a2_1 a2_2).bind fun t712 => ((tabardref2_Shr.f k t712 a3).bind fun bt715 => ((tabardref2_Part.f k t704 2).bind fun t719 => (if t694 = t719 then ((tabardref2_Part.f k t704 1).bind fun t720 => (if t695 = t720 then ((tabardref2_Part.f k t704 0).bind fun t721 => ((tabardref2_Part.f k bt715.1 2).bind fun t722 => (if bt707.1 = t722 then ((tabardref2_Part.f k bt715.1 1).bind fun t723 => (if bt707.2.1 = t723 then ((tabardref2_Part.f k bt715.1 0).bind fun t724 => (if t696 = t721 then (if bt707.2.2.1 = t724 then (if (bt707.2.2.2 == bt715.2) = true then ((wide_Low.f a2_0 a2_1 a2_2).bind fun bt725 => (some (bt725.1 == a2_1 && (bt725.2 == a2_2)))) else (none)) else (none)) else (none))) else (if t696 = t721 then (none) else (none)))) else (if t696 = t721 then (none) else (none))))) else ((tabardref2_Part.f k bt715.1 2).bind fun t727 => (if bt707.1 = t727 then ((tabardref2_Part.f k bt715.1 1).bind fun t728 => (if bt707.2.1 = t728 then ((tabardref2_Part.f k bt715.1 0).bind fun t729 => (none)) else (none))) else (none))))) else ((tabardref2_Part.f k bt715.1 2).bind fun t730 => (if bt707.1 = t730 then ((tabardref2_Part.f k bt715.1 1).bind fun t731 => (if bt707.2.1 = t731 then ((tabardref2_Part.f k bt715.1 0).bind fun t732 => (none)) else (none))) else (none)))))))) = some r := H
  have A10 := zA A100
  clear A100
  replace H := Option.bind_eq_some_iff.mp H
  obtain ⟨⟨t707, t708, t709, t710⟩, A110, H⟩ := H
  replace H : ((tabardref2_Nat.f k a2_0 a2_1 a2_2).bind fun t712 => ((tabardref2_Shr.f k t712 a3).bind fun bt715 => ((tabardref2_Part.f k t704 2).bind fun t719 => (if t694 = t719 then ((tabardref2_Part.f k t704 1).bind fun t720 => (if t695 = t720 then ((tabardref2_Part.f k t704 0).bind fun t721 => ((tabardref2_Part.f k bt715.1 2).bind fun t722 => (if t707 = t722 then ((tabardref2_Part.f k bt715.1 1).bind fun t723 => (if t708 = t723 then ((tabardref2_Part.f k bt715.1 0).bind fun t724 => (if t696 = t721 then (if t709 = t724 then (if (t710 == bt715.2) = true then ((wide_Low.f a2_0 a2_1 a2_2).bind fun bt725 => (some (bt725.1 == a2_1 && (bt725.2 == a2_2)))) else (none)) else (none)) else (none))) else (if t696 = t721 then (none) else (none)))) else (if t696 = t721 then (none) else (none))))) else ((tabardref2_Part.f k bt715.1 2).bind fun t727 => (if t707 = t727 then ((tabardref2_Part.f k bt715.1 1).bind fun t728 => (if t708 = t728 then ((tabardref2_Part.f k bt715.1 0).bind fun t729 => (none)) else (none))) else (none))))) else ((tabardref2_Part.f k bt715.1 2).bind fun t730 => (if t707 = t730 then ((tabardref2_Part.f k bt715.1 1).bind fun t731 => (if t708 = t731 then ((tabardref2_Part.f k bt715.1 0).bind fun t732 => (none)) else (none))) else (none))))))) = some r := H
  have A11 := zA A110
  clear A110
  replace H := Option.bind_eq_some_iff.mp H
  obtain ⟨t712, A120, H⟩ := H
  replace H : ((tabardref2_Shr.f k t712 a3).bind fun bt715 => ((tabardref2_Part.f k t704 2).bind fun t719 => (if t694 = t719 then ((tabardref2_Part.f k t704 1).bind fun t720 => (if t695 = t720 then ((tabardref2_Part.f k t704 0).bind fun t721 => ((tabardref2_Part.f k bt715.1 2).bind fun t722 => (if t707 = t722 then ((tabardref2_Part.f k bt715.1 1).bind fun t723 => (if t708 = t723 then ((tabardref2_Part.f k bt715.1 0).bind fun t724 => (if t696 = t721 then (if t709 = t724 then (if (t710 == bt715.2) = true then ((wide_Low.f a2_0 a2_1 a2_2).bind fun bt725 => (some (bt725.1 == a2_1 && (bt725.2 == a2_2)))) else (none)) else (none)) else (none))) else (if t696 = t721 then (none) else (none)))) else (if t696 = t721 then (none) else (none))))) else ((tabardref2_Part.f k bt715.1 2).bind fun t727 => (if t707 = t727 then ((tabardref2_Part.f k bt715.1 1).bind fun t728 => (if t708 = t728 then ((tabardref2_Part.f k bt715.1 0).bind fun t729 => (none)) else (none))) else (none))))) else ((tabardref2_Part.f k bt715.1 2).bind fun t730 => (if t707 = t730 then ((tabardref2_Part.f k bt715.1 1).bind fun t731 => (if t708 = t731 then ((tabardref2_Part.f k bt715.1 0).bind fun t732 => (none)) else (none))) else (none)))))) = some r := H
  have A12 := zA A120
  clear A120
  replace H := Option.bind_eq_some_iff.mp H
  obtain ⟨⟨t715, t716⟩, A130, H⟩ := H
  replace H : ((tabardref2_Part.f k t704 2).bind fun t719 => (if t694 = t719 then ((tabardref2_Part.f k t704 1).bind fun t720 => (if t695 = t720 then ((tabardref2_Part.f k t704 0).bind fun t721 => ((tabardref2_Part.f k t715 2).bind fun t722 => (if t707 = t722 then ((tabardref2_Part.f k t715 1).bind fun t723 => (if t708 = t723 then ((tabardref2_Part.f k t715 0).bind fun t724 => (if t696 = t721 then (if t709 = t724 then (if (t710 == t716) = true then ((wide_Low.f a2_0 a2_1 a2_2).bind fun bt725 => (some (bt725.1 == a2_1 && (bt725.2 == a2_2)))) else (none)) else (none)) else (none))) else (if t696 = t721 then (none) else (none)))) else (if t696 = t721 then (none) else (none))))) else ((tabardref2_Part.f k t715 2).bind fun t727 => (if t707 = t727 then ((tabardref2_Part.f k t715 1).bind fun t728 => (if t708 = t728 then ((tabardref2_Part.f k t715 0).bind fun t729 => (none)) else (none))) else (none))))) else ((tabardref2_Part.f k t715 2).bind fun t730 => (if t707 = t730 then ((tabardref2_Part.f k t715 1).bind fun t731 => (if t708 = t731 then ((tabardref2_Part.f k t715 0).bind fun t732 => (none)) else (none))) else (none))))) = some r := H
  have A13 := zA A130
  clear A130
  replace H := Option.bind_eq_some_iff.mp H
  obtain ⟨t719, A140, H⟩ := H
  replace H : (if t694 = t719 then ((tabardref2_Part.f k t704 1).bind fun t720 => (if t695 = t720 then ((tabardref2_Part.f k t704 0).bind fun t721 => ((tabardref2_Part.f k t715 2).bind fun t722 => (if t707 = t722 then ((tabardref2_Part.f k t715 1).bind fun t723 => (if t708 = t723 then ((tabardref2_Part.f k t715 0).bind fun t724 => (if t696 = t721 then (if t709 = t724 then (if (t710 == t716) = true then ((wide_Low.f a2_0 a2_1 a2_2).bind fun bt725 => (some (bt725.1 == a2_1 && (bt725.2 == a2_2)))) else (none)) else (none)) else (none))) else (if t696 = t721 then (none) else (none)))) else (if t696 = t721 then (none) else (none))))) else ((tabardref2_Part.f k t715 2).bind fun t727 => (if t707 = t727 then ((tabardref2_Part.f k t715 1).bind fun t728 => (if t708 = t728 then ((tabardref2_Part.f k t715 0).bind fun t729 => (none)) else (none))) else (none))))) else ((tabardref2_Part.f k t715 2).bind fun t730 => (if t707 = t730 then ((tabardref2_Part.f k t715 1).bind fun t731 => (if t708 = t731 then ((tabardref2_Part.f k t715 0).bind fun t732 => (none)) else (none))) else (none)))) = some r := H
  have A14 := zA A140
  clear A140
  by_cases c15 : t694 = t719
  ·
   rw [if_pos c15] at H
   have c15b0 : (t694 == t719) = true := beq_iff_eq.mpr c15
   have c15b1 : (t694 != t719) = false := bne_eq_false_iff_eq.mpr c15
   clear c15
   replace H := Option.bind_eq_some_iff.mp H
   obtain ⟨t720, A160, H⟩ := H
   replace H : (if t695 = t720 then ((tabardref2_Part.f k t704 0).bind fun t721 => ((tabardref2_Part.f k t715 2).bind fun t722 => (if t707 = t722 then ((tabardref2_Part.f k t715 1).bind fun t723 => (if t708 = t723 then ((tabardref2_Part.f k t715 0).bind fun t724 => (if t696 = t721 then (if t709 = t724 then (if (t710 == t716) = true then ((wide_Low.f a2_0 a2_1 a2_2).bind fun bt725 => (some (bt725.1 == a2_1 && (bt725.2 == a2_2)))) else (none)) else (none)) else (none))) else (if t696 = t721 then (none) else (none)))) else (if t696 = t721 then (none) else (none))))) else ((tabardref2_Part.f k t715 2).bind fun t727 => (if t707 = t727 then ((tabardref2_Part.f k t715 1).bind fun t728 => (if t708 = t728 then ((tabardref2_Part.f k t715 0).bind fun t729 => (none)) else (none))) else (none)))) = some r := H
   have A16 := zA A160
   clear A160
   by_cases c17 : t695 = t720
   ·
    rw [if_pos c17] at H
    have c17b0 : (t695 == t720) = true := beq_iff_eq.mpr c17
    have c17b1 : (t695 != t720) = false := bne_eq_false_iff_eq.mpr c17
    clear c17
    replace H := Option.bind_eq_some_iff.mp H
    obtain ⟨t721, A180, H⟩ := H
    replace H : ((tabardref2_Part.f k t715 2).bind fun t722 => (if t707 = t722 then ((tabardref2_Part.f k t715 1).bind fun t723 => (if t708 = t723 then ((tabardref2_Part.f k t715 0).bind fun t724 => (if t696 = t721 then (if t709 = t724 then (if (t710 == t716) = true then ((wide_Low.f a2_0 a2_1 a2_2).bind fun bt725 => (some (bt725.1 == a2_1 && (bt725.2 == a2_2)))) else (none)) else (none)) else (none))) else (if t696 = t721 then (none) else (none)))) else (if t696 = t721 then (none) else (none)))) = some r := H
    have A18 := zA A180
    clear A180
    replace H := Option.bind_eq_some_iff.mp H
    obtain ⟨t722, A190, H⟩ := H
    replace H : (if t707 = t722 then ((tabardref2_Part.f k t715 1).bind fun t723 => (if t708 = t723 then ((tabardref2_Part.f k t715 0).bind fun t724 => (if t696 = t721 then (if t709 = t724 then (if (t710 == t716) = true then ((wide_Low.f a2_0 a2_1 a2_2).bind fun bt725 => (some (bt725.1 == a2_1 && (bt725.2 == a2_2)))) else (none)) else (none)) else (none))) else (if t696 = t721 then (none) else (none)))) else (if t696 = t721 then (none) else (none))) = some r := H
    have A19 := zA A190
    clear A190
    by_cases c20 : t707 = t722
    ·
     rw [if_pos c20] at H
     have c20b0 : (t707 == t722) = true := beq_iff_eq.mpr c20
     have c20b1 : (t707 != t722) = false := bne_eq_false_iff_eq.mpr c20
     clear c20
     replace H := Option.bind_eq_some_iff.mp H
     obtain ⟨t723, A210, H⟩ := H
     replace H : (if t708 = t723 then ((tabardref2_Part.f k t715 0).bind fun t724 => (if t696 = t721 then (if t709 = t724 then (if (t710 == t716) = true then ((wide_Low.f a2_0 a2_1 a2_2).bind fun bt725 => (some (bt725.1 == a2_1 && (bt725.2 == a2_2)))) else (none)) else (none)) else (none))) else (if t696 = t721 then (none) else (none))) = some r := H
     have A21 := zA A210
     clear A210
     by_cases c22 : t708 = t723
     ·
      rw [if_pos c22] at H
      have c22b0 : (t708 == t723) = true := beq_iff_eq.mpr c22
      have c22b1 : (t708 != t723) = false := bne_eq_false_iff_eq.mpr c22
      clear c22
      replace H := Option.bind_eq_some_iff.mp H
      obtain ⟨t724, A230, H⟩ := H
      replace H : (if t696 = t721 then (if t709 = t724 then (if (t710 == t716) = true then ((wide_Low.f a2_0 a2_1 a2_2).bind fun bt725 => (some (bt725.1 == a2_1 && (bt725.2 == a2_2)))) else (none)) else (none)) else (none)) = some r := H
      have A23 := zA A230
      clear A230
      by_cases c24 : t696 = t721
      ·
       rw [if_pos c24] at H
       have c24b0 : (t696 == t721) = true := beq_iff_eq.mpr c24
       have c24b1 : (t696 != t721) = false := bne_eq_false_iff_eq.mpr c24
       clear c24
       by_cases c25 : t709 = t724
       ·
        rw [if_pos c25] at H
        have c25b0 : (t709 == t724) = true := beq_iff_eq.mpr c25
        have c25b1 : (t709 != t724) = false := bne_eq_false_iff_eq.mpr c25
        clear c25
        by_cases c26 : (t710 == t716) = true
        ·
         rw [if_pos c26] at H
         have c26b0 : (t710 == t716) = true := c26
         (try (have c26b1 : decide (t710 = t716) = true := by simpa using c26))
         (try (have c26b2 : (t710 == t716) = true := by simpa using c26))
         clear c26
         replace H := Option.bind_eq_some_iff.mp H
         obtain ⟨⟨t725, t726⟩, A270, H⟩ := H
         replace H : (some (t725 == a2_1 && (t726 == a2_2))) = some r := H
         have A27 := zA A270
         clear A270
         obtain rfl := Option.some.inj H
         go_enter Try.func11, Try.ntmps11
         try go_wp2_with (first | ((with_reducible refine zpq (N := 4) rfl ?_); refine zqq ?hg (N := 4) ?hd (cs := #[.int .u64 a0_0, .int .u64 a0_1]) (t := 24) ?hr ?_; (case hd => rfl); (case hg => rfl); (case hr => first | (go_simp; done) | (go_simp; rfl)); intro gb691 hg w28 hbox hb; have n0_ := zA (zeq (by repeat (first | (with_reducible first | exact HB.out | apply zaq | apply zbq | apply zcq) | exact HB.out)) hb); have n1_ := zA (hbox); have n2_ := zA ((by rw [hg]; exact (zfq (by repeat (first | (with_reducible first | exact HB.out | apply zaq | apply zbq | apply zcq) | exact HB.out))) : w.heap.size ≤ gb691)); have n3_ := zA ((by rw [hg]; exact (zfq (by repeat (first | (with_reducible first | exact HB.out | apply zaq | apply zbq | apply zcq) | exact HB.out))) : w.heap.size ≤ gb691)); clear HB; have HB := n0_; have BK691 := n1_; have GW691 := n2_; have GE691 := n3_; clear n0_ n1_ n2_ n3_; clear hb hbox hg) | ((with_reducible refine zpq (N := 6) rfl ?_); refine zqq ?hg (N := 6) ?hd (cs := #[.int .u64 a2_0, .int .u64 a2_1, .int .u64 a2_2]) (t := 69) ?hr ?_; (case hd => rfl); (case hg => rfl); (case hr => first | (go_simp; done) | (go_simp; rfl)); intro gb692 hg w29 hbox hb; have n0_ := zA (zlq (g := gb691) (o := .cells #[.int .u64 a0_0, .int .u64 a0_1] 24 (0, 0)) (by (with_reducible repeat (first | refine zgq ?_ _ | refine zhq ?_ | refine ziq ?_ _)); exact BK691.out) hb); have n1_ := zA (zeq (by repeat (first | (with_reducible first | exact HB.out | apply zaq | apply zbq | apply zcq | refine zdq ?_ GE691.out) | exact HB.out)) hb); have n2_ := zA (hbox); have n3_ := zA ((by rw [hg]; exact (zfq (by repeat (first | (with_reducible first | exact HB.out | apply zaq | apply zbq | apply zcq | refine zdq ?_ GE691.out) | exact HB.out))) : w.heap.size ≤ gb692)); have n4_ := zA ((by rw [hg]; exact (zfq (by repeat (first | (with_reducible first | exact HB.out | apply zaq | apply zbq | apply zcq | refine zdq ?_ GE691.out) | exact HB.out))) : w.heap.size ≤ gb692)); have n5_ := zA ((by rw [hg]; exact Nat.ne_of_lt (blk_lt (g := gb691) (o := .cells #[.int .u64 a0_0, .int .u64 a0_1] 24 (0, 0)) (by (with_reducible repeat (first | refine zgq ?_ _ | refine zhq ?_ | refine ziq ?_ _)); exact BK691.out)) : gb691 ≠ gb692)); have n6_ := zA ((by rw [hg]; exact Nat.ne_of_gt (blk_lt (g := gb691) (o := .cells #[.int .u64 a0_0, .int .u64 a0_1] 24 (0, 0)) (by (with_reducible repeat (first | refine zgq ?_ _ | refine zhq ?_ | refine ziq ?_ _)); exact BK691.out)) : gb692 ≠ gb691)); clear BK691; clear HB; have BK691 := n0_; have HB := n1_; have BK692 := n2_; have GW692 := n3_; have GE692 := n4_; have NB691_692 := n5_; have NB692_691 := n6_; clear n0_ n1_ n2_ n3_ n4_ n5_ n6_; clear hb hbox hg) | ((with_reducible refine zoq (f := 39) rfl ?_); refine goesL_ (some 18) rfl rfl Try.func39 (by kernel_rfl) rfl #[] rfl (by (try simp only [List.map_toArray, List.map_cons, List.map_nil]); first | done | rfl | (simp only [List.length_drop, List.length_take]; rfl)) ?_; (with_reducible refine (tabardlaw2_shown.calls k  true _ A5.out).mono ?_); rintro e w30 ⟨rfl, hb⟩; refine ⟨_, rfl, ?_⟩; have n0_ := zA (zlq (g := gb691) (o := .cells #[.int .u64 a0_0, .int .u64 a0_1] 24 (0, 0)) (by (with_reducible repeat (first | refine zgq ?_ _ | refine zhq ?_ | refine ziq ?_ _)); exact BK691.out) hb); have n1_ := zA (zlq (g := gb692) (o := .cells #[.int .u64 a2_0, .int .u64 a2_1, .int .u64 a2_2] 69 (0, 0)) (by (with_reducible repeat (first | refine zgq ?_ _ | refine zhq ?_ | refine ziq ?_ _)); exact BK692.out) hb); have n2_ := zA (zeq (by repeat (first | (with_reducible first | exact HB.out | apply zaq | apply zbq | apply zcq | refine zdq ?_ GE691.out | refine zdq ?_ GE692.out) | exact HB.out)) hb); clear BK691; clear BK692; clear HB; have BK691 := n0_; have BK692 := n1_; have HB := n2_; clear n0_ n1_ n2_; (try clear hb); (try clear hb2); (try clear hk); (try clear hi); have hnb31 := NB691_692.out; have hnc31 := NB692_691.out; have hcz32_0 : w30.cell? ⟨gb691, 0, none⟩ = some (.int .u64 a0_0) := (zmq BK691.out 0).trans rfl; have hcz32_1 : w30.cell? ⟨gb691, 1, none⟩ = some (.int .u64 a0_1) := (zmq BK691.out 1).trans rfl; have hfz32_0 := znq BK691.out 0; have hfz32_1 := znq BK691.out 1) | ((with_reducible refine zoq (f := 60) rfl ?_); refine goesL_ (some 23) rfl rfl Try.func60 (by kernel_rfl) rfl #[.agg #[.int .u64 a0_0, .int .u64 a0_1], .int .u64 a1] rfl (by (try simp only [List.map_toArray, List.map_cons, List.map_nil]); first | done | rfl | (simp only [List.length_drop, List.length_take]; rfl)) ?_; (with_reducible refine (wide_Times.calls a0_0 a0_1 a1 t694 t695 t696 _ A7.out).mono ?_); rintro e w33 ⟨rfl, hb⟩; refine ⟨_, rfl, ?_⟩; have n0_ := zA (zlq (g := gb691) (o := .cells #[.int .u64 a0_0, .int .u64 a0_1] 24 (0, 0)) (by (with_reducible repeat (first | refine zgq ?_ _ | refine zhq ?_ | refine ziq ?_ _)); exact BK691.out) hb); have n1_ := zA (zlq (g := gb692) (o := .cells #[.int .u64 a2_0, .int .u64 a2_1, .int .u64 a2_2] 69 (0, 0)) (by (with_reducible repeat (first | refine zgq ?_ _ | refine zhq ?_ | refine ziq ?_ _)); exact BK692.out) hb); have n2_ := zA (zeq (by repeat (first | (with_reducible first | exact HB.out | apply zaq | apply zbq | apply zcq | refine zdq ?_ GE691.out | refine zdq ?_ GE692.out) | exact HB.out)) hb); clear BK691; clear BK692; clear HB; have BK691 := n0_; have BK692 := n1_; have HB := n2_; clear n0_ n1_ n2_; (try clear hb); (try clear hb2); (try clear hk); (try clear hi)) | ((with_reducible refine zpq (N := 10) rfl ?_); refine zqq ?hg (N := 10) ?hd (cs := #[.int .u64 0, .int .u64 0, .int .u64 0]) (t := 69) ?hr ?_; (case hd => rfl); (case hg => rfl); (case hr => first | (go_simp; done) | (go_simp; rfl)); intro gb697 hg w34 hbox hb; have n0_ := zA (zlq (g := gb691) (o := .cells #[.int .u64 a0_0, .int .u64 a0_1] 24 (0, 0)) (by (with_reducible repeat (first | refine zgq ?_ _ | refine zhq ?_ | refine ziq ?_ _)); exact BK691.out) hb); have n1_ := zA (zlq (g := gb692) (o := .cells #[.int .u64 a2_0, .int .u64 a2_1, .int .u64 a2_2] 69 (0, 0)) (by (with_reducible repeat (first | refine zgq ?_ _ | refine zhq ?_ | refine ziq ?_ _)); exact BK692.out) hb); have n2_ := zA (zeq (by repeat (first | (with_reducible first | exact HB.out | apply zaq | apply zbq | apply zcq | refine zdq ?_ GE691.out | refine zdq ?_ GE692.out) | exact HB.out)) hb); have n3_ := zA (hbox); have n4_ := zA ((by rw [hg]; exact (zfq (by repeat (first | (with_reducible first | exact HB.out | apply zaq | apply zbq | apply zcq | refine zdq ?_ GE691.out | refine zdq ?_ GE692.out) | exact HB.out))) : w.heap.size ≤ gb697)); have n5_ := zA ((by rw [hg]; exact (zfq (by repeat (first | (with_reducible first | exact HB.out | apply zaq | apply zbq | apply zcq | refine zdq ?_ GE691.out | refine zdq ?_ GE692.out) | exact HB.out))) : w.heap.size ≤ gb697)); have n6_ := zA ((by rw [hg]; exact Nat.ne_of_lt (blk_lt (g := gb691) (o := .cells #[.int .u64 a0_0, .int .u64 a0_1] 24 (0, 0)) (by (with_reducible repeat (first | refine zgq ?_ _ | refine zhq ?_ | refine ziq ?_ _)); exact BK691.out)) : gb691 ≠ gb697)); have n7_ := zA ((by rw [hg]; exact Nat.ne_of_gt (blk_lt (g := gb691) (o := .cells #[.int .u64 a0_0, .int .u64 a0_1] 24 (0, 0)) (by (with_reducible repeat (first | refine zgq ?_ _ | refine zhq ?_ | refine ziq ?_ _)); exact BK691.out)) : gb697 ≠ gb691)); have n8_ := zA ((by rw [hg]; exact Nat.ne_of_lt (blk_lt (g := gb692) (o := .cells #[.int .u64 a2_0, .int .u64 a2_1, .int .u64 a2_2] 69 (0, 0)) (by (with_reducible repeat (first | refine zgq ?_ _ | refine zhq ?_ | refine ziq ?_ _)); exact BK692.out)) : gb692 ≠ gb697)); have n9_ := zA ((by rw [hg]; exact Nat.ne_of_gt (blk_lt (g := gb692) (o := .cells #[.int .u64 a2_0, .int .u64 a2_1, .int .u64 a2_2] 69 (0, 0)) (by (with_reducible repeat (first | refine zgq ?_ _ | refine zhq ?_ | refine ziq ?_ _)); exact BK692.out)) : gb697 ≠ gb692)); clear BK691; clear BK692; clear HB; have BK691 := n0_; have BK692 := n1_; have HB := n2_; have BK697 := n3_; have GW697 := n4_; have GE697 := n5_; have NB691_697 := n6_; have NB697_691 := n7_; have NB692_697 := n8_; have NB697_692 := n9_; clear n0_ n1_ n2_ n3_ n4_ n5_ n6_ n7_ n8_ n9_; clear hb hbox hg; have hnb35 := NB697_691.out; have hnc35 := NB691_697.out; have hnb36 := NB697_692.out; have hnc36 := NB692_697.out; have hcz37_0 : w34.cell? ⟨gb697, 0, none⟩ = some (.int .u64 0) := (zmq BK697.out 0).trans rfl; have hcz37_1 : w34.cell? ⟨gb697, 1, none⟩ = some (.int .u64 0) := (zmq BK697.out 1).trans rfl; have hcz37_2 : w34.cell? ⟨gb697, 2, none⟩ = some (.int .u64 0) := (zmq BK697.out 2).trans rfl; have hfz37_0 := znq BK697.out 0; have hfz37_1 := znq BK697.out 1; have hfz37_2 := znq BK697.out 2; have hcz38_0 : w34.cell? ⟨gb691, 0, none⟩ = some (.int .u64 a0_0) := (zmq BK691.out 0).trans rfl; have hcz38_1 : w34.cell? ⟨gb691, 1, none⟩ = some (.int .u64 a0_1) := (zmq BK691.out 1).trans rfl; have hfz38_0 := znq BK691.out 0; have hfz38_1 := znq BK691.out 1) | ((with_reducible refine zoq (f := 40) rfl ?_); refine goesL_ (some 25) rfl rfl Try.func40 (by kernel_rfl) rfl #[.agg #[.int .u64 a0_0, .int .u64 a0_1]] rfl (by (try simp only [List.map_toArray, List.map_cons, List.map_nil]); first | done | rfl | (simp only [List.length_drop, List.length_take]; rfl)) ?_; (with_reducible refine (tabardlaw2_nat.calls k a0_0 a0_1 t698 _ A8.out).mono ?_); rintro e w39 ⟨v699, rfl, ho0, hb⟩; refine ⟨_, rfl, ?_⟩; have n0_ := zA (Kd.R_lower ho0 (zfq (by repeat (first | (with_reducible first | exact HB.out | apply zaq | apply zbq | apply zcq | refine zdq ?_ GE691.out | refine zdq ?_ GE692.out | refine zdq ?_ GE697.out) | exact HB.out)))); have n1_ := zA (zlq (g := gb691) (o := .cells #[.int .u64 a0_0, .int .u64 a0_1] 24 (0, 0)) (by (with_reducible repeat (first | refine zgq ?_ _ | refine zhq ?_ | refine ziq ?_ _)); refine zjq ?_ NB691_697.out _; (with_reducible repeat (first | refine zgq ?_ _ | refine zhq ?_ | refine ziq ?_ _)); refine zjq ?_ NB691_697.out _; (with_reducible repeat (first | refine zgq ?_ _ | refine zhq ?_ | refine ziq ?_ _)); refine zjq ?_ NB691_697.out _; (with_reducible repeat (first | refine zgq ?_ _ | refine zhq ?_ | refine ziq ?_ _)); exact BK691.out) hb); have n2_ := zA (zlq (g := gb692) (o := .cells #[.int .u64 a2_0, .int .u64 a2_1, .int .u64 a2_2] 69 (0, 0)) (by (with_reducible repeat (first | refine zgq ?_ _ | refine zhq ?_ | refine ziq ?_ _)); refine zjq ?_ NB692_697.out _; (with_reducible repeat (first | refine zgq ?_ _ | refine zhq ?_ | refine ziq ?_ _)); refine zjq ?_ NB692_697.out _; (with_reducible repeat (first | refine zgq ?_ _ | refine zhq ?_ | refine ziq ?_ _)); refine zjq ?_ NB692_697.out _; (with_reducible repeat (first | refine zgq ?_ _ | refine zhq ?_ | refine ziq ?_ _)); exact BK692.out) hb); have n3_ := zA (zlq (g := gb697) (o := .cells #[.int .u64 t694, .int .u64 t695, .int .u64 t696] 69 (0, 0)) (by (with_reducible repeat (first | refine zgq ?_ _ | refine zhq ?_ | refine ziq ?_ _)); refine zkq (cs := #[.int .u64 t694, .int .u64 t695, .int .u64 0]) ?_ 2 _ rfl; (with_reducible repeat (first | refine zgq ?_ _ | refine zhq ?_ | refine ziq ?_ _)); refine zkq (cs := #[.int .u64 t694, .int .u64 0, .int .u64 0]) ?_ 1 _ rfl; (with_reducible repeat (first | refine zgq ?_ _ | refine zhq ?_ | refine ziq ?_ _)); refine zkq (cs := #[.int .u64 0, .int .u64 0, .int .u64 0]) ?_ 0 _ rfl; (with_reducible repeat (first | refine zgq ?_ _ | refine zhq ?_ | refine ziq ?_ _)); exact BK697.out) hb); have n4_ := zA (zeq (by repeat (first | (with_reducible first | exact HB.out | apply zaq | apply zbq | apply zcq | refine zdq ?_ GE691.out | refine zdq ?_ GE692.out | refine zdq ?_ GE697.out) | exact HB.out)) hb); clear BK691; clear BK692; clear BK697; clear HB; have HO700 := n0_; have BK691 := n1_; have BK692 := n2_; have BK697 := n3_; have HB := n4_; clear n0_ n1_ n2_ n3_ n4_; (try clear hb); (try clear hb2); (try clear hk); (try clear hi); (try clear ho0)) | ((with_reducible refine zoq (f := 22) rfl ?_); refine goesL_ (some 27) rfl rfl Try.func22 (by kernel_rfl) rfl #[.int .u64 0, .int .u64 0, .int .u64 a1] rfl (by (try simp only [List.map_toArray, List.map_cons, List.map_nil]); first | done | rfl | (simp only [List.length_drop, List.length_take]; rfl)) ?_; (with_reducible refine (tabardref2_Nat.calls k 0 0 a1 t701 _ A9.out).mono ?_); rintro e w40 ⟨v702, rfl, ho0, hb⟩; refine ⟨_, rfl, ?_⟩; have n0_ := zA (Kd.R_elder' (by (with_reducible repeat (first | apply Kd.R_alloc | apply Kd.R_drewN | apply Kd.R_drew)); exact HO700.out) (Kd.R_base ho0) hb); have n1_ := zA (Kd.R_lower (Kd.R_new' ho0 (Kd.R_lt (by (with_reducible repeat (first | apply Kd.R_alloc | apply Kd.R_drewN | apply Kd.R_drew)); exact HO700.out))) (zfq (by repeat (first | (with_reducible first | exact HB.out | apply zaq | apply zbq | apply zcq | refine zdq ?_ GE691.out | refine zdq ?_ GE692.out | refine zdq ?_ GE697.out) | exact HB.out)))); have n2_ := zA (zlq (g := gb691) (o := .cells #[.int .u64 a0_0, .int .u64 a0_1] 24 (0, 0)) (by (with_reducible repeat (first | refine zgq ?_ _ | refine zhq ?_ | refine ziq ?_ _)); exact BK691.out) hb); have n3_ := zA (zlq (g := gb692) (o := .cells #[.int .u64 a2_0, .int .u64 a2_1, .int .u64 a2_2] 69 (0, 0)) (by (with_reducible repeat (first | refine zgq ?_ _ | refine zhq ?_ | refine ziq ?_ _)); exact BK692.out) hb); have n4_ := zA (zlq (g := gb697) (o := .cells #[.int .u64 t694, .int .u64 t695, .int .u64 t696] 69 (0, 0)) (by (with_reducible repeat (first | refine zgq ?_ _ | refine zhq ?_ | refine ziq ?_ _)); exact BK697.out) hb); have n5_ := zA (zeq (by repeat (first | (with_reducible first | exact HB.out | apply zaq | apply zbq | apply zcq | refine zdq ?_ GE691.out | refine zdq ?_ GE692.out | refine zdq ?_ GE697.out) | exact HB.out)) hb); clear HO700; clear BK691; clear BK692; clear BK697; clear HB; have HO700 := n0_; have HO703 := n1_; have BK691 := n2_; have BK692 := n3_; have BK697 := n4_; have HB := n5_; clear n0_ n1_ n2_ n3_ n4_ n5_; (try clear hb); (try clear hb2); (try clear hk); (try clear hi); (try clear ho0); obtain ⟨Ao41, co41, eo41⟩ := Kd.R_slice HO700.out; subst eo41; obtain ⟨Ao42, co42, eo42⟩ := Kd.R_slice HO703.out; subst eo42) | ((with_reducible refine zoq (f := 47) rfl ?_); refine goesL_ (some 28) rfl rfl Try.func47 (by kernel_rfl) rfl #[.slice Ao41 t698.length co41, .slice Ao42 t701.length co42] rfl (by (try simp only [List.map_toArray, List.map_cons, List.map_nil]); first | done | rfl | (simp only [List.length_drop, List.length_take]; rfl)) ?_; (with_reducible refine (tabardref1_Times.calls k _ _ t698 _ _ t701 t704 _ ?side1 ?side2 ?side3 ?side4 A10.out).mono ?_); (case side1 => repeat (first | exact (Kd.R_reads' HO700.out).2.2 | (with_reducible refine Kd.C_alloc ?_ _) | (with_reducible refine Kd.C_drewN ?_ _) | (with_reducible refine Kd.C_drew ?_))); (case side2 => exact (Kd.R_reads' HO700.out).2.1); (case side3 => repeat (first | exact (Kd.R_reads' HO703.out).2.2 | (with_reducible refine Kd.C_alloc ?_ _) | (with_reducible refine Kd.C_drewN ?_ _) | (with_reducible refine Kd.C_drew ?_))); (case side4 => exact (Kd.R_reads' HO703.out).2.1); rintro e w43 ⟨v705, rfl, ho0, hb⟩; refine ⟨_, rfl, ?_⟩; have n0_ := zA (Kd.R_elder' (by (with_reducible repeat (first | apply Kd.R_alloc | apply Kd.R_drewN | apply Kd.R_drew)); exact HO700.out) (Kd.R_base ho0) hb); have n1_ := zA (Kd.R_elder' (by (with_reducible repeat (first | apply Kd.R_alloc | apply Kd.R_drewN | apply Kd.R_drew)); exact HO703.out) (Kd.R_base ho0) hb); have n2_ := zA (Kd.R_lower (Kd.R_new' (Kd.R_new' ho0 (Kd.R_lt (by (with_reducible repeat (first | apply Kd.R_alloc | apply Kd.R_drewN | apply Kd.R_drew)); exact HO700.out))) (Kd.R_lt (by (with_reducible repeat (first | apply Kd.R_alloc | apply Kd.R_drewN | apply Kd.R_drew)); exact HO703.out))) (zfq (by repeat (first | (with_reducible first | exact HB.out | apply zaq | apply zbq | apply zcq | refine zdq ?_ GE691.out | refine zdq ?_ GE692.out | refine zdq ?_ GE697.out) | exact HB.out)))); have n3_ := zA (zlq (g := gb691) (o := .cells #[.int .u64 a0_0, .int .u64 a0_1] 24 (0, 0)) (by (with_reducible repeat (first | refine zgq ?_ _ | refine zhq ?_ | refine ziq ?_ _)); exact BK691.out) hb); have n4_ := zA (zlq (g := gb692) (o := .cells #[.int .u64 a2_0, .int .u64 a2_1, .int .u64 a2_2] 69 (0, 0)) (by (with_reducible repeat (first | refine zgq ?_ _ | refine zhq ?_ | refine ziq ?_ _)); exact BK692.out) hb); have n5_ := zA (zlq (g := gb697) (o := .cells #[.int .u64 t694, .int .u64 t695, .int .u64 t696] 69 (0, 0)) (by (with_reducible repeat (first | refine zgq ?_ _ | refine zhq ?_ | refine ziq ?_ _)); exact BK697.out) hb); have n6_ := zA (zeq (by repeat (first | (with_reducible first | exact HB.out | apply zaq | apply zbq | apply zcq | refine zdq ?_ GE691.out | refine zdq ?_ GE692.out | refine zdq ?_ GE697.out) | exact HB.out)) hb); clear HO700; clear HO703; clear BK691; clear BK692; clear BK697; clear HB; have HO700 := n0_; have HO703 := n1_; have HO706 := n2_; have BK691 := n3_; have BK692 := n4_; have BK697 := n5_; have HB := n6_; clear n0_ n1_ n2_ n3_ n4_ n5_ n6_; (try clear hb); (try clear hb2); (try clear hk); (try clear hi); (try clear ho0); have hcz44_0 : w43.cell? ⟨gb692, 0, none⟩ = some (.int .u64 a2_0) := (zmq BK692.out 0).trans rfl; have hcz44_1 : w43.cell? ⟨gb692, 1, none⟩ = some (.int .u64 a2_1) := (zmq BK692.out 1).trans rfl; have hcz44_2 : w43.cell? ⟨gb692, 2, none⟩ = some (.int .u64 a2_2) := (zmq BK692.out 2).trans rfl; have hfz44_0 := znq BK692.out 0; have hfz44_1 := znq BK692.out 1; have hfz44_2 := znq BK692.out 2) | ((with_reducible refine zoq (f := 61) rfl ?_); refine goesL_ (some 32) rfl rfl Try.func61 (by kernel_rfl) rfl #[.agg #[.int .u64 a2_0, .int .u64 a2_1, .int .u64 a2_2], .int .i64 a3] rfl (by (try simp only [List.map_toArray, List.map_cons, List.map_nil]); first | done | rfl | (simp only [List.length_drop, List.length_take]; rfl)) ?_; (with_reducible refine (wide_Drop.calls k a2_0 a2_1 a2_2 a3 t707 t708 t709 t710 _ A11.out).mono ?_); rintro e w45 ⟨rfl, hb⟩; refine ⟨_, rfl, ?_⟩; have n0_ := zA (Kd.R_below (by (with_reducible repeat (first | apply Kd.R_alloc | apply Kd.R_drewN | apply Kd.R_drew)); exact HO700.out) hb); have n1_ := zA (Kd.R_below (by (with_reducible repeat (first | apply Kd.R_alloc | apply Kd.R_drewN | apply Kd.R_drew)); exact HO703.out) hb); have n2_ := zA (Kd.R_below (by (with_reducible repeat (first | apply Kd.R_alloc | apply Kd.R_drewN | apply Kd.R_drew)); exact HO706.out) hb); have n3_ := zA (zlq (g := gb691) (o := .cells #[.int .u64 a0_0, .int .u64 a0_1] 24 (0, 0)) (by (with_reducible repeat (first | refine zgq ?_ _ | refine zhq ?_ | refine ziq ?_ _)); exact BK691.out) hb); have n4_ := zA (zlq (g := gb692) (o := .cells #[.int .u64 a2_0, .int .u64 a2_1, .int .u64 a2_2] 69 (0, 0)) (by (with_reducible repeat (first | refine zgq ?_ _ | refine zhq ?_ | refine ziq ?_ _)); exact BK692.out) hb); have n5_ := zA (zlq (g := gb697) (o := .cells #[.int .u64 t694, .int .u64 t695, .int .u64 t696] 69 (0, 0)) (by (with_reducible repeat (first | refine zgq ?_ _ | refine zhq ?_ | refine ziq ?_ _)); exact BK697.out) hb); have n6_ := zA (zeq (by repeat (first | (with_reducible first | exact HB.out | apply zaq | apply zbq | apply zcq | refine zdq ?_ GE691.out | refine zdq ?_ GE692.out | refine zdq ?_ GE697.out) | exact HB.out)) hb); clear HO700; clear HO703; clear HO706; clear BK691; clear BK692; clear BK697; clear HB; have HO700 := n0_; have HO703 := n1_; have HO706 := n2_; have BK691 := n3_; have BK692 := n4_; have BK697 := n5_; have HB := n6_; clear n0_ n1_ n2_ n3_ n4_ n5_ n6_; (try clear hb); (try clear hb2); (try clear hk); (try clear hi)) | ((with_reducible refine zpq (N := 12) rfl ?_); refine zqq ?hg (N := 12) ?hd (cs := #[.int .u64 0, .int .u64 0, .int .u64 0]) (t := 69) ?hr ?_; (case hd => rfl); (case hg => rfl); (case hr => first | (go_simp; done) | (go_simp; rfl)); intro gb711 hg w46 hbox hb; have n0_ := zA (Kd.R_below (by (with_reducible repeat (first | apply Kd.R_alloc | apply Kd.R_drewN | apply Kd.R_drew)); exact HO700.out) hb); have n1_ := zA (Kd.R_below (by (with_reducible repeat (first | apply Kd.R_alloc | apply Kd.R_drewN | apply Kd.R_drew)); exact HO703.out) hb); have n2_ := zA (Kd.R_below (by (with_reducible repeat (first | apply Kd.R_alloc | apply Kd.R_drewN | apply Kd.R_drew)); exact HO706.out) hb); have n3_ := zA (zlq (g := gb691) (o := .cells #[.int .u64 a0_0, .int .u64 a0_1] 24 (0, 0)) (by (with_reducible repeat (first | refine zgq ?_ _ | refine zhq ?_ | refine ziq ?_ _)); exact BK691.out) hb); have n4_ := zA (zlq (g := gb692) (o := .cells #[.int .u64 a2_0, .int .u64 a2_1, .int .u64 a2_2] 69 (0, 0)) (by (with_reducible repeat (first | refine zgq ?_ _ | refine zhq ?_ | refine ziq ?_ _)); exact BK692.out) hb); have n5_ := zA (zlq (g := gb697) (o := .cells #[.int .u64 t694, .int .u64 t695, .int .u64 t696] 69 (0, 0)) (by (with_reducible repeat (first | refine zgq ?_ _ | refine zhq ?_ | refine ziq ?_ _)); exact BK697.out) hb); have n6_ := zA (zeq (by repeat (first | (with_reducible first | exact HB.out | apply zaq | apply zbq | apply zcq | refine zdq ?_ GE691.out | refine zdq ?_ GE692.out | refine zdq ?_ GE697.out) | exact HB.out)) hb); have n7_ := zA (hbox); have n8_ := zA ((by rw [hg]; exact (zfq (by repeat (first | (with_reducible first | exact HB.out | apply zaq | apply zbq | apply zcq | refine zdq ?_ GE691.out | refine zdq ?_ GE692.out | refine zdq ?_ GE697.out) | exact HB.out))) : w.heap.size ≤ gb711)); have n9_ := zA ((by rw [hg]; exact (zfq (by repeat (first | (with_reducible first | exact HB.out | apply zaq | apply zbq | apply zcq | refine zdq ?_ GE691.out | refine zdq ?_ GE692.out | refine zdq ?_ GE697.out) | exact HB.out))) : w.heap.size ≤ gb711)); have n10_ := zA ((by rw [hg]; exact Nat.ne_of_lt (blk_lt (g := gb691) (o := .cells #[.int .u64 a0_0, .int .u64 a0_1] 24 (0, 0)) (by (with_reducible repeat (first | refine zgq ?_ _ | refine zhq ?_ | refine ziq ?_ _)); exact BK691.out)) : gb691 ≠ gb711)); have n11_ := zA ((by rw [hg]; exact Nat.ne_of_gt (blk_lt (g := gb691) (o := .cells #[.int .u64 a0_0, .int .u64 a0_1] 24 (0, 0)) (by (with_reducible repeat (first | refine zgq ?_ _ | refine zhq ?_ | refine ziq ?_ _)); exact BK691.out)) : gb711 ≠ gb691)); have n12_ := zA ((by rw [hg]; exact Nat.ne_of_lt (blk_lt (g := gb692) (o := .cells #[.int .u64 a2_0, .int .u64 a2_1, .int .u64 a2_2] 69 (0, 0)) (by (with_reducible repeat (first | refine zgq ?_ _ | refine zhq ?_ | refine ziq ?_ _)); exact BK692.out)) : gb692 ≠ gb711)); have n13_ := zA ((by rw [hg]; exact Nat.ne_of_gt (blk_lt (g := gb692) (o := .cells #[.int .u64 a2_0, .int .u64 a2_1, .int .u64 a2_2] 69 (0, 0)) (by (with_reducible repeat (first | refine zgq ?_ _ | refine zhq ?_ | refine ziq ?_ _)); exact BK692.out)) : gb711 ≠ gb692)); have n14_ := zA ((by rw [hg]; exact Nat.ne_of_lt (blk_lt (g := gb697) (o := .cells #[.int .u64 t694, .int .u64 t695, .int .u64 t696] 69 (0, 0)) (by (with_reducible repeat (first | refine zgq ?_ _ | refine zhq ?_ | refine ziq ?_ _)); exact BK697.out)) : gb697 ≠ gb711)); have n15_ := zA ((by rw [hg]; exact Nat.ne_of_gt (blk_lt (g := gb697) (o := .cells #[.int .u64 t694, .int .u64 t695, .int .u64 t696] 69 (0, 0)) (by (with_reducible repeat (first | refine zgq ?_ _ | refine zhq ?_ | refine ziq ?_ _)); exact BK697.out)) : gb711 ≠ gb697)); clear HO700; clear HO703; clear HO706; clear BK691; clear BK692; clear BK697; clear HB; have HO700 := n0_; have HO703 := n1_; have HO706 := n2_; have BK691 := n3_; have BK692 := n4_; have BK697 := n5_; have HB := n6_; have BK711 := n7_; have GW711 := n8_; have GE711 := n9_; have NB691_711 := n10_; have NB711_691 := n11_; have NB692_711 := n12_; have NB711_692 := n13_; have NB697_711 := n14_; have NB711_697 := n15_; clear n0_ n1_ n2_ n3_ n4_ n5_ n6_ n7_ n8_ n9_ n10_ n11_ n12_ n13_ n14_ n15_; clear hb hbox hg; have hnb47 := NB711_691.out; have hnc47 := NB691_711.out; have hnb48 := NB711_692.out; have hnc48 := NB692_711.out; have hnb49 := NB711_697.out; have hnc49 := NB697_711.out; have hcz50_0 : w46.cell? ⟨gb711, 0, none⟩ = some (.int .u64 0) := (zmq BK711.out 0).trans rfl; have hcz50_1 : w46.cell? ⟨gb711, 1, none⟩ = some (.int .u64 0) := (zmq BK711.out 1).trans rfl; have hcz50_2 : w46.cell? ⟨gb711, 2, none⟩ = some (.int .u64 0) := (zmq BK711.out 2).trans rfl; have hfz50_0 := znq BK711.out 0; have hfz50_1 := znq BK711.out 1; have hfz50_2 := znq BK711.out 2; have hcz51_0 : w46.cell? ⟨gb692, 0, none⟩ = some (.int .u64 a2_0) := (zmq BK692.out 0).trans rfl; have hcz51_1 : w46.cell? ⟨gb692, 1, none⟩ = some (.int .u64 a2_1) := (zmq BK692.out 1).trans rfl; have hcz51_2 : w46.cell? ⟨gb692, 2, none⟩ = some (.int .u64 a2_2) := (zmq BK692.out 2).trans rfl; have hfz51_0 := znq BK692.out 0; have hfz51_1 := znq BK692.out 1; have hfz51_2 := znq BK692.out 2) | ((with_reducible refine zoq (f := 22) rfl ?_); refine goesL_ (some 42) rfl rfl Try.func22 (by kernel_rfl) rfl #[.int .u64 a2_0, .int .u64 a2_1, .int .u64 a2_2] rfl (by (try simp only [List.map_toArray, List.map_cons, List.map_nil]); first | done | rfl | (simp only [List.length_drop, List.length_take]; rfl)) ?_; (with_reducible refine (tabardref2_Nat.calls k a2_0 a2_1 a2_2 t712 _ A12.out).mono ?_); rintro e w52 ⟨v713, rfl, ho0, hb⟩; refine ⟨_, rfl, ?_⟩; have n0_ := zA (Kd.R_elder' (by (with_reducible repeat (first | apply Kd.R_alloc | apply Kd.R_drewN | apply Kd.R_drew)); exact (Kd.R_mono (Kd.R_far (p := ⟨gb711, 2, none⟩) (Kd.R_far (p := ⟨gb711, 1, none⟩) (Kd.R_far (p := ⟨gb711, 0, none⟩) (Kd.R_types HO700.out BK711.out (by decide)) (fun _ hk => hk.2) (.int .u64 t707)) (fun _ hk => hk.2) (.int .u64 t708)) (fun _ hk => hk.2) (.int .u64 t709)) (fun _ h_ => h_.1))) (Kd.R_base ho0) hb); have n1_ := zA (Kd.R_elder' (by (with_reducible repeat (first | apply Kd.R_alloc | apply Kd.R_drewN | apply Kd.R_drew)); exact (Kd.R_mono (Kd.R_far (p := ⟨gb711, 2, none⟩) (Kd.R_far (p := ⟨gb711, 1, none⟩) (Kd.R_far (p := ⟨gb711, 0, none⟩) (Kd.R_types HO703.out BK711.out (by decide)) (fun _ hk => hk.2) (.int .u64 t707)) (fun _ hk => hk.2) (.int .u64 t708)) (fun _ hk => hk.2) (.int .u64 t709)) (fun _ h_ => h_.1))) (Kd.R_base ho0) hb); have n2_ := zA (Kd.R_elder' (by (with_reducible repeat (first | apply Kd.R_alloc | apply Kd.R_drewN | apply Kd.R_drew)); exact (Kd.R_mono (Kd.R_far (p := ⟨gb711, 2, none⟩) (Kd.R_far (p := ⟨gb711, 1, none⟩) (Kd.R_far (p := ⟨gb711, 0, none⟩) (Kd.R_types HO706.out BK711.out (by decide)) (fun _ hk => hk.2) (.int .u64 t707)) (fun _ hk => hk.2) (.int .u64 t708)) (fun _ hk => hk.2) (.int .u64 t709)) (fun _ h_ => h_.1))) (Kd.R_base ho0) hb); have n3_ := zA (Kd.R_lower (Kd.R_new' (Kd.R_new' (Kd.R_new' ho0 (Kd.R_lt (by (with_reducible repeat (first | apply Kd.R_alloc | apply Kd.R_drewN | apply Kd.R_drew)); exact (Kd.R_mono (Kd.R_far (p := ⟨gb711, 2, none⟩) (Kd.R_far (p := ⟨gb711, 1, none⟩) (Kd.R_far (p := ⟨gb711, 0, none⟩) (Kd.R_types HO700.out BK711.out (by decide)) (fun _ hk => hk.2) (.int .u64 t707)) (fun _ hk => hk.2) (.int .u64 t708)) (fun _ hk => hk.2) (.int .u64 t709)) (fun _ h_ => h_.1))))) (Kd.R_lt (by (with_reducible repeat (first | apply Kd.R_alloc | apply Kd.R_drewN | apply Kd.R_drew)); exact (Kd.R_mono (Kd.R_far (p := ⟨gb711, 2, none⟩) (Kd.R_far (p := ⟨gb711, 1, none⟩) (Kd.R_far (p := ⟨gb711, 0, none⟩) (Kd.R_types HO703.out BK711.out (by decide)) (fun _ hk => hk.2) (.int .u64 t707)) (fun _ hk => hk.2) (.int .u64 t708)) (fun _ hk => hk.2) (.int .u64 t709)) (fun _ h_ => h_.1))))) (Kd.R_lt (by (with_reducible repeat (first | apply Kd.R_alloc | apply Kd.R_drewN | apply Kd.R_drew)); exact (Kd.R_mono (Kd.R_far (p := ⟨gb711, 2, none⟩) (Kd.R_far (p := ⟨gb711, 1, none⟩) (Kd.R_far (p := ⟨gb711, 0, none⟩) (Kd.R_types HO706.out BK711.out (by decide)) (fun _ hk => hk.2) (.int .u64 t707)) (fun _ hk => hk.2) (.int .u64 t708)) (fun _ hk => hk.2) (.int .u64 t709)) (fun _ h_ => h_.1))))) (zfq (by repeat (first | (with_reducible first | exact HB.out | apply zaq | apply zbq | apply zcq | refine zdq ?_ GE691.out | refine zdq ?_ GE692.out | refine zdq ?_ GE697.out | refine zdq ?_ GE711.out) | exact HB.out)))); have n4_ := zA (zlq (g := gb691) (o := .cells #[.int .u64 a0_0, .int .u64 a0_1] 24 (0, 0)) (by (with_reducible repeat (first | refine zgq ?_ _ | refine zhq ?_ | refine ziq ?_ _)); refine zjq ?_ NB691_711.out _; (with_reducible repeat (first | refine zgq ?_ _ | refine zhq ?_ | refine ziq ?_ _)); refine zjq ?_ NB691_711.out _; (with_reducible repeat (first | refine zgq ?_ _ | refine zhq ?_ | refine ziq ?_ _)); refine zjq ?_ NB691_711.out _; (with_reducible repeat (first | refine zgq ?_ _ | refine zhq ?_ | refine ziq ?_ _)); exact BK691.out) hb); have n5_ := zA (zlq (g := gb692) (o := .cells #[.int .u64 a2_0, .int .u64 a2_1, .int .u64 a2_2] 69 (0, 0)) (by (with_reducible repeat (first | refine zgq ?_ _ | refine zhq ?_ | refine ziq ?_ _)); refine zjq ?_ NB692_711.out _; (with_reducible repeat (first | refine zgq ?_ _ | refine zhq ?_ | refine ziq ?_ _)); refine zjq ?_ NB692_711.out _; (with_reducible repeat (first | refine zgq ?_ _ | refine zhq ?_ | refine ziq ?_ _)); refine zjq ?_ NB692_711.out _; (with_reducible repeat (first | refine zgq ?_ _ | refine zhq ?_ | refine ziq ?_ _)); exact BK692.out) hb); have n6_ := zA (zlq (g := gb697) (o := .cells #[.int .u64 t694, .int .u64 t695, .int .u64 t696] 69 (0, 0)) (by (with_reducible repeat (first | refine zgq ?_ _ | refine zhq ?_ | refine ziq ?_ _)); refine zjq ?_ NB697_711.out _; (with_reducible repeat (first | refine zgq ?_ _ | refine zhq ?_ | refine ziq ?_ _)); refine zjq ?_ NB697_711.out _; (with_reducible repeat (first | refine zgq ?_ _ | refine zhq ?_ | refine ziq ?_ _)); refine zjq ?_ NB697_711.out _; (with_reducible repeat (first | refine zgq ?_ _ | refine zhq ?_ | refine ziq ?_ _)); exact BK697.out) hb); have n7_ := zA (zlq (g := gb711) (o := .cells #[.int .u64 t707, .int .u64 t708, .int .u64 t709] 69 (0, 0)) (by (with_reducible repeat (first | refine zgq ?_ _ | refine zhq ?_ | refine ziq ?_ _)); refine zkq (cs := #[.int .u64 t707, .int .u64 t708, .int .u64 0]) ?_ 2 _ rfl; (with_reducible repeat (first | refine zgq ?_ _ | refine zhq ?_ | refine ziq ?_ _)); refine zkq (cs := #[.int .u64 t707, .int .u64 0, .int .u64 0]) ?_ 1 _ rfl; (with_reducible repeat (first | refine zgq ?_ _ | refine zhq ?_ | refine ziq ?_ _)); refine zkq (cs := #[.int .u64 0, .int .u64 0, .int .u64 0]) ?_ 0 _ rfl; (with_reducible repeat (first | refine zgq ?_ _ | refine zhq ?_ | refine ziq ?_ _)); exact BK711.out) hb); have n8_ := zA (zeq (by repeat (first | (with_reducible first | exact HB.out | apply zaq | apply zbq | apply zcq | refine zdq ?_ GE691.out | refine zdq ?_ GE692.out | refine zdq ?_ GE697.out | refine zdq ?_ GE711.out) | exact HB.out)) hb); clear HO700; clear HO703; clear HO706; clear BK691; clear BK692; clear BK697; clear BK711; clear HB; have HO700 := n0_; have HO703 := n1_; have HO706 := n2_; have HO714 := n3_; have BK691 := n4_; have BK692 := n5_; have BK697 := n6_; have BK711 := n7_; have HB := n8_; clear n0_ n1_ n2_ n3_ n4_ n5_ n6_ n7_ n8_; (try clear hb); (try clear hb2); (try clear hk); (try clear hi); (try clear ho0); obtain ⟨Ao53, co53, eo53⟩ := Kd.R_slice HO714.out; subst eo53) | ((with_reducible refine zoq (f := 52) rfl ?_); refine goesL_ (some 44) rfl rfl Try.func52 (by kernel_rfl) rfl #[.slice Ao53 t712.length co53, .int .i64 a3] rfl (by (try simp only [List.map_toArray, List.map_cons, List.map_nil]); first | done | rfl | (simp only [List.length_drop, List.length_take]; rfl)) ?_; (with_reducible refine (tabardref2_Shr.calls k _ _ t712 a3 t715 t716 _ ?side1 ?side2 A13.out).mono ?_); (case side1 => repeat (first | exact (Kd.R_reads' HO714.out).2.2 | (with_reducible refine Kd.C_alloc ?_ _) | (with_reducible refine Kd.C_drewN ?_ _) | (with_reducible refine Kd.C_drew ?_))); (case side2 => exact (Kd.R_reads' HO714.out).2.1); rintro e w54 ⟨v717, rfl, ho0, hb⟩; refine ⟨_, rfl, ?_⟩; have n0_ := zA (Kd.R_elder' (by (with_reducible repeat (first | apply Kd.R_alloc | apply Kd.R_drewN | apply Kd.R_drew)); exact HO700.out) (Kd.R_base ho0) hb); have n1_ := zA (Kd.R_elder' (by (with_reducible repeat (first | apply Kd.R_alloc | apply Kd.R_drewN | apply Kd.R_drew)); exact HO703.out) (Kd.R_base ho0) hb); have n2_ := zA (Kd.R_elder' (by (with_reducible repeat (first | apply Kd.R_alloc | apply Kd.R_drewN | apply Kd.R_drew)); exact HO706.out) (Kd.R_base ho0) hb); have n3_ := zA (Kd.R_elder' (by (with_reducible repeat (first | apply Kd.R_alloc | apply Kd.R_drewN | apply Kd.R_drew)); exact HO714.out) (Kd.R_base ho0) hb); have n4_ := zA (Kd.R_lower (Kd.R_new' (Kd.R_new' (Kd.R_new' (Kd.R_new' ho0 (Kd.R_lt (by (with_reducible repeat (first | apply Kd.R_alloc | apply Kd.R_drewN | apply Kd.R_drew)); exact HO700.out))) (Kd.R_lt (by (with_reducible repeat (first | apply Kd.R_alloc | apply Kd.R_drewN | apply Kd.R_drew)); exact HO703.out))) (Kd.R_lt (by (with_reducible repeat (first | apply Kd.R_alloc | apply Kd.R_drewN | apply Kd.R_drew)); exact HO706.out))) (Kd.R_lt (by (with_reducible repeat (first | apply Kd.R_alloc | apply Kd.R_drewN | apply Kd.R_drew)); exact HO714.out))) (zfq (by repeat (first | (with_reducible first | exact HB.out | apply zaq | apply zbq | apply zcq | refine zdq ?_ GE691.out | refine zdq ?_ GE692.out | refine zdq ?_ GE697.out | refine zdq ?_ GE711.out) | exact HB.out)))); have n5_ := zA (zlq (g := gb691) (o := .cells #[.int .u64 a0_0, .int .u64 a0_1] 24 (0, 0)) (by (with_reducible repeat (first | refine zgq ?_ _ | refine zhq ?_ | refine ziq ?_ _)); exact BK691.out) hb); have n6_ := zA (zlq (g := gb692) (o := .cells #[.int .u64 a2_0, .int .u64 a2_1, .int .u64 a2_2] 69 (0, 0)) (by (with_reducible repeat (first | refine zgq ?_ _ | refine zhq ?_ | refine ziq ?_ _)); exact BK692.out) hb); have n7_ := zA (zlq (g := gb697) (o := .cells #[.int .u64 t694, .int .u64 t695, .int .u64 t696] 69 (0, 0)) (by (with_reducible repeat (first | refine zgq ?_ _ | refine zhq ?_ | refine ziq ?_ _)); exact BK697.out) hb); have n8_ := zA (zlq (g := gb711) (o := .cells #[.int .u64 t707, .int .u64 t708, .int .u64 t709] 69 (0, 0)) (by (with_reducible repeat (first | refine zgq ?_ _ | refine zhq ?_ | refine ziq ?_ _)); exact BK711.out) hb); have n9_ := zA (zeq (by repeat (first | (with_reducible first | exact HB.out | apply zaq | apply zbq | apply zcq | refine zdq ?_ GE691.out | refine zdq ?_ GE692.out | refine zdq ?_ GE697.out | refine zdq ?_ GE711.out) | exact HB.out)) hb); clear HO700; clear HO703; clear HO706; clear HO714; clear BK691; clear BK692; clear BK697; clear BK711; clear HB; have HO700 := n0_; have HO703 := n1_; have HO706 := n2_; have HO714 := n3_; have HO718 := n4_; have BK691 := n5_; have BK692 := n6_; have BK697 := n7_; have BK711 := n8_; have HB := n9_; clear n0_ n1_ n2_ n3_ n4_ n5_ n6_ n7_ n8_ n9_; (try clear hb); (try clear hb2); (try clear hk); (try clear hi); (try clear ho0)))
         have n0_ := zA (Kd.R_drew HO700.out)
         have n1_ := zA (Kd.R_drew HO703.out)
         have n2_ := zA (Kd.R_drew HO706.out)
         have n3_ := zA (Kd.R_drew HO714.out)
         have n4_ := zA (Kd.R_drew HO718.out)
         have n5_ := zA (zhq BK691.out)
         have n6_ := zA (zhq BK692.out)
         have n7_ := zA (zhq BK697.out)
         have n8_ := zA (zhq BK711.out)
         have n9_ := zA (zcq HB.out)
         clear HO700
         clear HO703
         clear HO706
         clear HO714
         clear HO718
         clear BK691
         clear BK692
         clear BK697
         clear BK711
         clear HB
         have HO700 := n0_
         have HO703 := n1_
         have HO706 := n2_
         have HO714 := n3_
         have HO718 := n4_
         have BK691 := n5_
         have BK692 := n6_
         have BK697 := n7_
         have BK711 := n8_
         have HB := n9_
         clear n0_ n1_ n2_ n3_ n4_ n5_ n6_ n7_ n8_ n9_
         obtain ⟨Ao56, co56, eo56⟩ := Kd.R_slice HO706.out
         (first | subst eo56 | (injection eo56 with f1_ f2_ f3_; have f4_ := f1_.symm; have f5_ := f3_.symm; clear f1_ f2_ f3_; subst f4_; subst f5_))
         refine start_ (n := 20) (S := fun w' => w'.cell? ⟨gb697, 0, none⟩ = some (.int .u64 t694) ∧ w'.cell? ⟨gb697, 1, none⟩ = some (.int .u64 t695) ∧ w'.cell? ⟨gb697, 2, none⟩ = some (.int .u64 t696)) (ds := []) #[false, false, false, false, false, false, false, false, false, false, false, false, false, false, false, false, false, false, false, false] (by kernel_rfl) rfl rfl ⟨(zmq BK697.out 0).trans rfl, (zmq BK697.out 1).trans rfl, (zmq BK697.out 2).trans rfl⟩ (fun hHeld => ?_); refine with_tabW tabardlaw2_WideTimes.tab8 tabardlaw2_WideTimes.bits8 (fun HT_ HW_ => ?_)
         generalize w54.drew = w55 at HO700 HO703 HO706 HO714 HO718 BK691 BK692 BK697 BK711 HB hHeld ⊢
         refine pure_ (i := 0) (N := some 47) (v := ?_) (a' := ?_) #[true, false, false, false, false, false, false, false, false, false, false, false, false, false, false, false, false, false, false, false] rfl rfl (any_of HT_.out (by kernel_rfl)) (fun _ _ _ h => h) (Or.inl ⟨by rfl, ?_⟩) ?_ ?_
         rotate_left
         ·
          intro w'
          go_simp
          with_reducible rfl
         rotate_left
         ·
          simp only [Act.put, List.setIfInBounds_toArray, List.set_cons_zero, List.set_cons_succ, i64_w, i32_w]
          rfl
         refine pure_ (i := 2) (N := some 49) (v := ?_) (a' := ?_) #[true, false, true, false, false, false, false, false, false, false, false, false, false, false, false, false, false, false, false, false] rfl rfl (any_of HT_.out (by kernel_rfl)) (fun _ _ _ h => h) (Or.inl ⟨by rfl, ?_⟩) ?_ ?_
         rotate_left
         ·
          intro w'
          go_simp
          with_reducible rfl
         rotate_left
         ·
          simp only [Act.put, List.setIfInBounds_toArray, List.set_cons_zero, List.set_cons_succ, i64_w, i32_w]
          rfl
         refine take_ (i := 1) (N := some 48) (v := ?_) (a' := ?_) #[true, true, true, false, false, false, false, false, false, false, false, false, false, false, false, false, false, false, false, false] rfl rfl (take_ofW HT_.out HW_.out (by kernel_rfl)) (fun _ _ _ h => h) (Or.inl ⟨by rfl, ?_⟩) hHeld ?_ ?_
         rotate_left
         ·
          rintro w' ⟨s0, s1, s2⟩
          go_simp
          with_reducible rfl
         rotate_left
         ·
          simp only [Act.put, List.setIfInBounds_toArray, List.set_cons_zero, List.set_cons_succ, i64_w, i32_w]
          rfl
         refine one_ (i := 3) (N := some 50) #[true, true, true, true, false, false, false, false, false, false, false, false, false, false, false, false, false, false, false, false] rfl rfl (one_of HT_.out (by kernel_rfl)) (by decide) (fun K hK => ?_)
         refine goes_ Try.func57 (by kernel_rfl) rfl #[.slice Ao56 t704.length co56, .int .i64 2] (by rfl) rfl rfl (by (try simp only [List.map_toArray, List.map_cons, List.map_nil]); first | done | rfl | (simp only [List.length_drop, List.length_take]; rfl)) ?_
         with_reducible refine (tabardref2_Part.calls k _ _ t704 2 t719 _ ?side1 ?side2 A14.out).mono ?_
         (case side1 => repeat (first | exact (Kd.R_reads' HO706.out).2.2 | (with_reducible refine Kd.C_alloc ?_ _) | (with_reducible refine Kd.C_drewN ?_ _) | (with_reducible refine Kd.C_drew ?_)))
         (case side2 => exact (Kd.R_reads' HO706.out).2.1)
         rintro e w' ⟨rfl, ⟨nd, rfl⟩⟩
         refine ⟨_, rfl, ?_⟩
         refine hK.out _ _ ⟨(zmq BK697.out 0).trans rfl, (zmq BK697.out 1).trans rfl, (zmq BK697.out 2).trans rfl⟩ (fun hHeld => ?_)
         clear hK K
         refine norm_ (a' := ?_) ?_ ?_
         rotate_left
         ·
          show Act.put _ (some 50) _ = _
          simp only [Act.put, List.setIfInBounds_toArray, List.set_cons_zero, List.set_cons_succ, i64_w, i32_w]
          rfl
         refine pure_ (i := 4) (N := some 51) (v := ?_) (a' := ?_) #[true, true, true, true, true, false, false, false, false, false, false, false, false, false, false, false, false, false, false, false] rfl rfl (any_of HT_.out (by kernel_rfl)) (fun _ _ _ h => h) (Or.inl ⟨by rfl, ?_⟩) ?_ ?_
         rotate_left
         ·
          intro w'
          go_simp
          with_reducible rfl
         rotate_left
         ·
          simp only [Act.put, List.setIfInBounds_toArray, List.set_cons_zero, List.set_cons_succ, i64_w, i32_w]
          rfl
         refine pure_ (i := 5) (N := some 52) (v := ?_) (a' := ?_) #[true, true, true, true, true, true, false, false, false, false, false, false, false, false, false, false, false, false, false, false] rfl rfl (any_of HT_.out (by kernel_rfl)) (fun _ _ _ h => h) (Or.inl ⟨by rfl, ?_⟩) ?_ ?_
         rotate_left
         ·
          intro w'
          go_simp
          with_reducible rfl
         rotate_left
         ·
          simp only [Act.put, List.setIfInBounds_toArray, List.set_cons_zero, List.set_cons_succ, i64_w, i32_w]
          rfl
         refine pure_ (i := 6) (N := some 53) (v := ?_) (a' := ?_) #[true, true, true, true, true, true, true, false, false, false, false, false, false, false, false, false, false, false, false, false] rfl rfl (any_of HT_.out (by kernel_rfl)) (fun _ _ _ h => h) (Or.inl ⟨by rfl, ?_⟩) ?_ ?_
         rotate_left
         ·
          intro w'
          go_simp
          with_reducible rfl
         rotate_left
         ·
          simp only [Act.put, List.setIfInBounds_toArray, List.set_cons_zero, List.set_cons_succ, i64_w, i32_w]
          rfl
         refine pure_ (i := 8) (N := some 55) (v := ?_) (a' := ?_) #[true, true, true, true, true, true, true, false, true, false, false, false, false, false, false, false, false, false, false, false] rfl rfl (any_of HT_.out (by kernel_rfl)) (fun _ _ _ h => h) (Or.inl ⟨by rfl, ?_⟩) ?_ ?_
         rotate_left
         ·
          intro w'
          go_simp
          with_reducible rfl
         rotate_left
         ·
          simp only [Act.put, List.setIfInBounds_toArray, List.set_cons_zero, List.set_cons_succ, i64_w, i32_w]
          rfl
         refine take_ (i := 7) (N := some 54) (v := ?_) (a' := ?_) #[true, true, true, true, true, true, true, true, true, false, false, false, false, false, false, false, false, false, false, false] rfl rfl (take_ofW HT_.out HW_.out (by kernel_rfl)) (fun _ _ _ h => h) (Or.inl ⟨by rfl, ?_⟩) hHeld ?_ ?_
         rotate_left
         ·
          rintro w' ⟨s0, s1, s2⟩
          go_simp
          with_reducible rfl
         rotate_left
         ·
          simp only [Act.put, List.setIfInBounds_toArray, List.set_cons_zero, List.set_cons_succ, i64_w, i32_w]
          rfl
         refine one_ (i := 9) (N := some 56) #[true, true, true, true, true, true, true, true, true, true, false, false, false, false, false, false, false, false, false, false] rfl rfl (one_of HT_.out (by kernel_rfl)) (by decide) (fun K hK => ?_)
         refine goes_ Try.func57 (by kernel_rfl) rfl #[.slice Ao56 t704.length co56, .int .i64 1] (by rfl) rfl rfl (by (try simp only [List.map_toArray, List.map_cons, List.map_nil]); first | done | rfl | (simp only [List.length_drop, List.length_take]; rfl)) ?_
         with_reducible refine (tabardref2_Part.calls k _ _ t704 1 t720 _ ?side1 ?side2 A16.out).mono ?_
         (case side1 => repeat (first | exact (Kd.R_reads' HO706.out).2.2 | (with_reducible refine Kd.C_alloc ?_ _) | (with_reducible refine Kd.C_drewN ?_ _) | (with_reducible refine Kd.C_drew ?_)))
         (case side2 => exact (Kd.R_reads' HO706.out).2.1)
         rintro e w' ⟨rfl, ⟨nd, rfl⟩⟩
         refine ⟨_, rfl, ?_⟩
         refine hK.out _ _ ⟨(zmq BK697.out 0).trans rfl, (zmq BK697.out 1).trans rfl, (zmq BK697.out 2).trans rfl⟩ (fun hHeld => ?_)
         clear hK K
         refine norm_ (a' := ?_) ?_ ?_
         rotate_left
         ·
          show Act.put _ (some 56) _ = _
          simp only [Act.put, List.setIfInBounds_toArray, List.set_cons_zero, List.set_cons_succ, i64_w, i32_w]
          rfl
         refine pure_ (i := 10) (N := some 57) (v := ?_) (a' := ?_) #[true, true, true, true, true, true, true, true, true, true, true, false, false, false, false, false, false, false, false, false] rfl rfl (any_of HT_.out (by kernel_rfl)) (fun _ _ _ h => h) (Or.inl ⟨by rfl, ?_⟩) ?_ ?_
         rotate_left
         ·
          intro w'
          go_simp
          with_reducible rfl
         rotate_left
         ·
          simp only [Act.put, List.setIfInBounds_toArray, List.set_cons_zero, List.set_cons_succ, i64_w, i32_w]
          rfl
         refine pure_ (i := 11) (N := some 58) (v := ?_) (a' := ?_) #[true, true, true, true, true, true, true, true, true, true, true, true, false, false, false, false, false, false, false, false] rfl rfl (any_of HT_.out (by kernel_rfl)) (fun _ _ _ h => h) (Or.inl ⟨by rfl, ?_⟩) ?_ ?_
         rotate_left
         ·
          intro w'
          go_simp
          with_reducible rfl
         rotate_left
         ·
          simp only [Act.put, List.setIfInBounds_toArray, List.set_cons_zero, List.set_cons_succ, i64_w, i32_w]
          rfl
         refine pure_ (i := 12) (N := some 59) (v := ?_) (a' := ?_) #[true, true, true, true, true, true, true, true, true, true, true, true, true, false, false, false, false, false, false, false] rfl rfl (any_of HT_.out (by kernel_rfl)) (fun _ _ _ h => h) (Or.inl ⟨by rfl, ?_⟩) ?_ ?_
         rotate_left
         ·
          intro w'
          go_simp
          with_reducible rfl
         rotate_left
         ·
          simp only [Act.put, List.setIfInBounds_toArray, List.set_cons_zero, List.set_cons_succ, i64_w, i32_w]
          rfl
         refine pure_ (i := 13) (N := some 60) (v := ?_) (a' := ?_) #[true, true, true, true, true, true, true, true, true, true, true, true, true, true, false, false, false, false, false, false] rfl rfl (any_of HT_.out (by kernel_rfl)) (fun _ _ _ h => h) (Or.inl ⟨by rfl, ?_⟩) ?_ ?_
         rotate_left
         ·
          intro w'
          go_simp
          with_reducible rfl
         rotate_left
         ·
          simp only [Act.put, List.setIfInBounds_toArray, List.set_cons_zero, List.set_cons_succ, i64_w, i32_w]
          rfl
         refine pure_ (i := 15) (N := some 62) (v := ?_) (a' := ?_) #[true, true, true, true, true, true, true, true, true, true, true, true, true, true, false, true, false, false, false, false] rfl rfl (any_of HT_.out (by kernel_rfl)) (fun _ _ _ h => h) (Or.inl ⟨by rfl, ?_⟩) ?_ ?_
         rotate_left
         ·
          intro w'
          go_simp
          with_reducible rfl
         rotate_left
         ·
          simp only [Act.put, List.setIfInBounds_toArray, List.set_cons_zero, List.set_cons_succ, i64_w, i32_w]
          rfl
         refine take_ (i := 14) (N := some 61) (v := ?_) (a' := ?_) #[true, true, true, true, true, true, true, true, true, true, true, true, true, true, true, true, false, false, false, false] rfl rfl (take_ofW HT_.out HW_.out (by kernel_rfl)) (fun _ _ _ h => h) (Or.inl ⟨by rfl, ?_⟩) hHeld ?_ ?_
         rotate_left
         ·
          rintro w' ⟨s0, s1, s2⟩
          go_simp
          with_reducible rfl
         rotate_left
         ·
          simp only [Act.put, List.setIfInBounds_toArray, List.set_cons_zero, List.set_cons_succ, i64_w, i32_w]
          rfl
         refine one_ (i := 16) (N := some 63) #[true, true, true, true, true, true, true, true, true, true, true, true, true, true, true, true, true, false, false, false] rfl rfl (one_of HT_.out (by kernel_rfl)) (by decide) (fun K hK => ?_)
         refine goes_ Try.func57 (by kernel_rfl) rfl #[.slice Ao56 t704.length co56, .int .i64 0] (by rfl) rfl rfl (by (try simp only [List.map_toArray, List.map_cons, List.map_nil]); first | done | rfl | (simp only [List.length_drop, List.length_take]; rfl)) ?_
         with_reducible refine (tabardref2_Part.calls k _ _ t704 0 t721 _ ?side1 ?side2 A18.out).mono ?_
         (case side1 => repeat (first | exact (Kd.R_reads' HO706.out).2.2 | (with_reducible refine Kd.C_alloc ?_ _) | (with_reducible refine Kd.C_drewN ?_ _) | (with_reducible refine Kd.C_drew ?_)))
         (case side2 => exact (Kd.R_reads' HO706.out).2.1)
         rintro e w' ⟨rfl, ⟨nd, rfl⟩⟩
         refine ⟨_, rfl, ?_⟩
         refine hK.out _ _ ⟨(zmq BK697.out 0).trans rfl, (zmq BK697.out 1).trans rfl, (zmq BK697.out 2).trans rfl⟩ (fun hHeld => ?_)
         clear hK K
         refine norm_ (a' := ?_) ?_ ?_
         rotate_left
         ·
          show Act.put _ (some 63) _ = _
          simp only [Act.put, List.setIfInBounds_toArray, List.set_cons_zero, List.set_cons_succ, i64_w, i32_w]
          rfl
         refine pure_ (i := 17) (N := some 64) (v := ?_) (a' := ?_) #[true, true, true, true, true, true, true, true, true, true, true, true, true, true, true, true, true, true, false, false] rfl rfl (any_of HT_.out (by kernel_rfl)) (fun _ _ _ h => h) (Or.inl ⟨by rfl, ?_⟩) ?_ ?_
         rotate_left
         ·
          intro w'
          go_simp
          with_reducible rfl
         rotate_left
         ·
          simp only [Act.put, List.setIfInBounds_toArray, List.set_cons_zero, List.set_cons_succ, i64_w, i32_w]
          rfl
         refine pure_ (i := 18) (N := some 65) (v := ?_) (a' := ?_) #[true, true, true, true, true, true, true, true, true, true, true, true, true, true, true, true, true, true, true, false] rfl rfl (any_of HT_.out (by kernel_rfl)) (fun _ _ _ h => h) (Or.inl ⟨by rfl, ?_⟩) ?_ ?_
         rotate_left
         ·
          intro w'
          go_simp
          with_reducible rfl
         rotate_left
         ·
          simp only [Act.put, List.setIfInBounds_toArray, List.set_cons_zero, List.set_cons_succ, i64_w, i32_w]
          rfl
         refine pure_ (i := 19) (N := some 16) (v := ?_) (a' := ?_) #[true, true, true, true, true, true, true, true, true, true, true, true, true, true, true, true, true, true, true, true] rfl rfl (any_of HT_.out (by kernel_rfl)) (fun _ _ _ h => h) (Or.inl ⟨by rfl, ?_⟩) ?_ ?_
         rotate_left
         ·
          intro w'
          go_simp
          with_reducible rfl
         rotate_left
         ·
          simp only [Act.put, List.setIfInBounds_toArray, List.set_cons_zero, List.set_cons_succ, i64_w, i32_w]
          rfl
         refine done_ (done_of HT_.out (by kernel_rfl)) ?_
         try go_wp2
         (try ((try simp only [World.drewN_drewN]); rw [drewN_self w55]; generalize hq_ : World.drewN w55 _ = w55; have n0_ := zA (Kd.R_at hq_ HO700.out); have n1_ := zA (Kd.R_at hq_ HO703.out); have n2_ := zA (Kd.R_at hq_ HO706.out); have n3_ := zA (Kd.R_at hq_ HO714.out); have n4_ := zA (Kd.R_at hq_ HO718.out); have n5_ := zA (blk_at hq_ BK691.out); have n6_ := zA (blk_at hq_ BK692.out); have n7_ := zA (blk_at hq_ BK697.out); have n8_ := zA (blk_at hq_ BK711.out); have n9_ := zA (below_at hq_ HB.out); clear hq_ HO700 HO703 HO706 HO714 HO718 BK691 BK692 BK697 BK711 HB; have HO700 := n0_; have HO703 := n1_; have HO706 := n2_; have HO714 := n3_; have HO718 := n4_; have BK691 := n5_; have BK692 := n6_; have BK697 := n7_; have BK711 := n8_; have HB := n9_; clear n0_ n1_ n2_ n3_ n4_ n5_ n6_ n7_ n8_ n9_))
         have n0_ := zA (Kd.R_drew HO700.out)
         have n1_ := zA (Kd.R_drew HO703.out)
         have n2_ := zA (Kd.R_drew HO706.out)
         have n3_ := zA (Kd.R_drew HO714.out)
         have n4_ := zA (Kd.R_drew HO718.out)
         have n5_ := zA (zhq BK691.out)
         have n6_ := zA (zhq BK692.out)
         have n7_ := zA (zhq BK697.out)
         have n8_ := zA (zhq BK711.out)
         have n9_ := zA (zcq HB.out)
         clear HO700
         clear HO703
         clear HO706
         clear HO714
         clear HO718
         clear BK691
         clear BK692
         clear BK697
         clear BK711
         clear HB
         have HO700 := n0_
         have HO703 := n1_
         have HO706 := n2_
         have HO714 := n3_
         have HO718 := n4_
         have BK691 := n5_
         have BK692 := n6_
         have BK697 := n7_
         have BK711 := n8_
         have HB := n9_
         clear n0_ n1_ n2_ n3_ n4_ n5_ n6_ n7_ n8_ n9_
         obtain ⟨Ao58, co58, eo58⟩ := Kd.R_slice HO718.out
         (first | subst eo58 | (injection eo58 with f1_ f2_ f3_; have f4_ := f1_.symm; have f5_ := f3_.symm; clear f1_ f2_ f3_; subst f4_; subst f5_))
         refine start_ (n := 20) (S := fun w' => w'.cell? ⟨gb711, 0, none⟩ = some (.int .u64 t707) ∧ w'.cell? ⟨gb711, 1, none⟩ = some (.int .u64 t708) ∧ w'.cell? ⟨gb711, 2, none⟩ = some (.int .u64 t709)) (ds := []) #[false, false, false, false, false, false, false, false, false, false, false, false, false, false, false, false, false, false, false, false] (by kernel_rfl) rfl rfl ⟨(zmq BK711.out 0).trans rfl, (zmq BK711.out 1).trans rfl, (zmq BK711.out 2).trans rfl⟩ (fun hHeld => ?_); refine with_tabW tabardlaw2_WideTimes.tab9 tabardlaw2_WideTimes.bits9 (fun HT_ HW_ => ?_)
         generalize w55.drew = w57 at HO700 HO703 HO706 HO714 HO718 BK691 BK692 BK697 BK711 HB hHeld ⊢
         refine pure_ (i := 0) (N := some 66) (v := ?_) (a' := ?_) #[true, false, false, false, false, false, false, false, false, false, false, false, false, false, false, false, false, false, false, false] rfl rfl (any_of HT_.out (by kernel_rfl)) (fun _ _ _ h => h) (Or.inl ⟨by rfl, ?_⟩) ?_ ?_
         rotate_left
         ·
          intro w'
          go_simp
          with_reducible rfl
         rotate_left
         ·
          simp only [Act.put, List.setIfInBounds_toArray, List.set_cons_zero, List.set_cons_succ, i64_w, i32_w]
          rfl
         refine pure_ (i := 2) (N := some 68) (v := ?_) (a' := ?_) #[true, false, true, false, false, false, false, false, false, false, false, false, false, false, false, false, false, false, false, false] rfl rfl (any_of HT_.out (by kernel_rfl)) (fun _ _ _ h => h) (Or.inl ⟨by rfl, ?_⟩) ?_ ?_
         rotate_left
         ·
          intro w'
          go_simp
          with_reducible rfl
         rotate_left
         ·
          simp only [Act.put, List.setIfInBounds_toArray, List.set_cons_zero, List.set_cons_succ, i64_w, i32_w]
          rfl
         refine take_ (i := 1) (N := some 67) (v := ?_) (a' := ?_) #[true, true, true, false, false, false, false, false, false, false, false, false, false, false, false, false, false, false, false, false] rfl rfl (take_ofW HT_.out HW_.out (by kernel_rfl)) (fun _ _ _ h => h) (Or.inl ⟨by rfl, ?_⟩) hHeld ?_ ?_
         rotate_left
         ·
          rintro w' ⟨s0, s1, s2⟩
          go_simp
          with_reducible rfl
         rotate_left
         ·
          simp only [Act.put, List.setIfInBounds_toArray, List.set_cons_zero, List.set_cons_succ, i64_w, i32_w]
          rfl
         refine one_ (i := 3) (N := some 69) #[true, true, true, true, false, false, false, false, false, false, false, false, false, false, false, false, false, false, false, false] rfl rfl (one_of HT_.out (by kernel_rfl)) (by decide) (fun K hK => ?_)
         refine goes_ Try.func57 (by kernel_rfl) rfl #[.slice Ao58 t715.length co58, .int .i64 2] (by rfl) rfl rfl (by (try simp only [List.map_toArray, List.map_cons, List.map_nil]); first | done | rfl | (simp only [List.length_drop, List.length_take]; rfl)) ?_
         with_reducible refine (tabardref2_Part.calls k _ _ t715 2 t722 _ ?side1 ?side2 A19.out).mono ?_
         (case side1 => repeat (first | exact (Kd.R_reads' HO718.out).2.2 | (with_reducible refine Kd.C_alloc ?_ _) | (with_reducible refine Kd.C_drewN ?_ _) | (with_reducible refine Kd.C_drew ?_)))
         (case side2 => exact (Kd.R_reads' HO718.out).2.1)
         rintro e w' ⟨rfl, ⟨nd, rfl⟩⟩
         refine ⟨_, rfl, ?_⟩
         refine hK.out _ _ ⟨(zmq BK711.out 0).trans rfl, (zmq BK711.out 1).trans rfl, (zmq BK711.out 2).trans rfl⟩ (fun hHeld => ?_)
         clear hK K
         refine norm_ (a' := ?_) ?_ ?_
         rotate_left
         ·
          show Act.put _ (some 69) _ = _
          simp only [Act.put, List.setIfInBounds_toArray, List.set_cons_zero, List.set_cons_succ, i64_w, i32_w]
          rfl
         refine pure_ (i := 4) (N := some 70) (v := ?_) (a' := ?_) #[true, true, true, true, true, false, false, false, false, false, false, false, false, false, false, false, false, false, false, false] rfl rfl (any_of HT_.out (by kernel_rfl)) (fun _ _ _ h => h) (Or.inl ⟨by rfl, ?_⟩) ?_ ?_
         rotate_left
         ·
          intro w'
          go_simp
          with_reducible rfl
         rotate_left
         ·
          simp only [Act.put, List.setIfInBounds_toArray, List.set_cons_zero, List.set_cons_succ, i64_w, i32_w]
          rfl
         refine pure_ (i := 5) (N := some 71) (v := ?_) (a' := ?_) #[true, true, true, true, true, true, false, false, false, false, false, false, false, false, false, false, false, false, false, false] rfl rfl (any_of HT_.out (by kernel_rfl)) (fun _ _ _ h => h) (Or.inl ⟨by rfl, ?_⟩) ?_ ?_
         rotate_left
         ·
          intro w'
          go_simp
          with_reducible rfl
         rotate_left
         ·
          simp only [Act.put, List.setIfInBounds_toArray, List.set_cons_zero, List.set_cons_succ, i64_w, i32_w]
          rfl
         refine pure_ (i := 6) (N := some 72) (v := ?_) (a' := ?_) #[true, true, true, true, true, true, true, false, false, false, false, false, false, false, false, false, false, false, false, false] rfl rfl (any_of HT_.out (by kernel_rfl)) (fun _ _ _ h => h) (Or.inl ⟨by rfl, ?_⟩) ?_ ?_
         rotate_left
         ·
          intro w'
          go_simp
          with_reducible rfl
         rotate_left
         ·
          simp only [Act.put, List.setIfInBounds_toArray, List.set_cons_zero, List.set_cons_succ, i64_w, i32_w]
          rfl
         refine pure_ (i := 8) (N := some 74) (v := ?_) (a' := ?_) #[true, true, true, true, true, true, true, false, true, false, false, false, false, false, false, false, false, false, false, false] rfl rfl (any_of HT_.out (by kernel_rfl)) (fun _ _ _ h => h) (Or.inl ⟨by rfl, ?_⟩) ?_ ?_
         rotate_left
         ·
          intro w'
          go_simp
          with_reducible rfl
         rotate_left
         ·
          simp only [Act.put, List.setIfInBounds_toArray, List.set_cons_zero, List.set_cons_succ, i64_w, i32_w]
          rfl
         refine take_ (i := 7) (N := some 73) (v := ?_) (a' := ?_) #[true, true, true, true, true, true, true, true, true, false, false, false, false, false, false, false, false, false, false, false] rfl rfl (take_ofW HT_.out HW_.out (by kernel_rfl)) (fun _ _ _ h => h) (Or.inl ⟨by rfl, ?_⟩) hHeld ?_ ?_
         rotate_left
         ·
          rintro w' ⟨s0, s1, s2⟩
          go_simp
          with_reducible rfl
         rotate_left
         ·
          simp only [Act.put, List.setIfInBounds_toArray, List.set_cons_zero, List.set_cons_succ, i64_w, i32_w]
          rfl
         refine one_ (i := 9) (N := some 75) #[true, true, true, true, true, true, true, true, true, true, false, false, false, false, false, false, false, false, false, false] rfl rfl (one_of HT_.out (by kernel_rfl)) (by decide) (fun K hK => ?_)
         refine goes_ Try.func57 (by kernel_rfl) rfl #[.slice Ao58 t715.length co58, .int .i64 1] (by rfl) rfl rfl (by (try simp only [List.map_toArray, List.map_cons, List.map_nil]); first | done | rfl | (simp only [List.length_drop, List.length_take]; rfl)) ?_
         with_reducible refine (tabardref2_Part.calls k _ _ t715 1 t723 _ ?side1 ?side2 A21.out).mono ?_
         (case side1 => repeat (first | exact (Kd.R_reads' HO718.out).2.2 | (with_reducible refine Kd.C_alloc ?_ _) | (with_reducible refine Kd.C_drewN ?_ _) | (with_reducible refine Kd.C_drew ?_)))
         (case side2 => exact (Kd.R_reads' HO718.out).2.1)
         rintro e w' ⟨rfl, ⟨nd, rfl⟩⟩
         refine ⟨_, rfl, ?_⟩
         refine hK.out _ _ ⟨(zmq BK711.out 0).trans rfl, (zmq BK711.out 1).trans rfl, (zmq BK711.out 2).trans rfl⟩ (fun hHeld => ?_)
         clear hK K
         refine norm_ (a' := ?_) ?_ ?_
         rotate_left
         ·
          show Act.put _ (some 75) _ = _
          simp only [Act.put, List.setIfInBounds_toArray, List.set_cons_zero, List.set_cons_succ, i64_w, i32_w]
          rfl
         refine pure_ (i := 10) (N := some 76) (v := ?_) (a' := ?_) #[true, true, true, true, true, true, true, true, true, true, true, false, false, false, false, false, false, false, false, false] rfl rfl (any_of HT_.out (by kernel_rfl)) (fun _ _ _ h => h) (Or.inl ⟨by rfl, ?_⟩) ?_ ?_
         rotate_left
         ·
          intro w'
          go_simp
          with_reducible rfl
         rotate_left
         ·
          simp only [Act.put, List.setIfInBounds_toArray, List.set_cons_zero, List.set_cons_succ, i64_w, i32_w]
          rfl
         refine pure_ (i := 11) (N := some 77) (v := ?_) (a' := ?_) #[true, true, true, true, true, true, true, true, true, true, true, true, false, false, false, false, false, false, false, false] rfl rfl (any_of HT_.out (by kernel_rfl)) (fun _ _ _ h => h) (Or.inl ⟨by rfl, ?_⟩) ?_ ?_
         rotate_left
         ·
          intro w'
          go_simp
          with_reducible rfl
         rotate_left
         ·
          simp only [Act.put, List.setIfInBounds_toArray, List.set_cons_zero, List.set_cons_succ, i64_w, i32_w]
          rfl
         refine pure_ (i := 12) (N := some 78) (v := ?_) (a' := ?_) #[true, true, true, true, true, true, true, true, true, true, true, true, true, false, false, false, false, false, false, false] rfl rfl (any_of HT_.out (by kernel_rfl)) (fun _ _ _ h => h) (Or.inl ⟨by rfl, ?_⟩) ?_ ?_
         rotate_left
         ·
          intro w'
          go_simp
          with_reducible rfl
         rotate_left
         ·
          simp only [Act.put, List.setIfInBounds_toArray, List.set_cons_zero, List.set_cons_succ, i64_w, i32_w]
          rfl
         refine pure_ (i := 13) (N := some 79) (v := ?_) (a' := ?_) #[true, true, true, true, true, true, true, true, true, true, true, true, true, true, false, false, false, false, false, false] rfl rfl (any_of HT_.out (by kernel_rfl)) (fun _ _ _ h => h) (Or.inl ⟨by rfl, ?_⟩) ?_ ?_
         rotate_left
         ·
          intro w'
          go_simp
          with_reducible rfl
         rotate_left
         ·
          simp only [Act.put, List.setIfInBounds_toArray, List.set_cons_zero, List.set_cons_succ, i64_w, i32_w]
          rfl
         refine pure_ (i := 15) (N := some 81) (v := ?_) (a' := ?_) #[true, true, true, true, true, true, true, true, true, true, true, true, true, true, false, true, false, false, false, false] rfl rfl (any_of HT_.out (by kernel_rfl)) (fun _ _ _ h => h) (Or.inl ⟨by rfl, ?_⟩) ?_ ?_
         rotate_left
         ·
          intro w'
          go_simp
          with_reducible rfl
         rotate_left
         ·
          simp only [Act.put, List.setIfInBounds_toArray, List.set_cons_zero, List.set_cons_succ, i64_w, i32_w]
          rfl
         refine take_ (i := 14) (N := some 80) (v := ?_) (a' := ?_) #[true, true, true, true, true, true, true, true, true, true, true, true, true, true, true, true, false, false, false, false] rfl rfl (take_ofW HT_.out HW_.out (by kernel_rfl)) (fun _ _ _ h => h) (Or.inl ⟨by rfl, ?_⟩) hHeld ?_ ?_
         rotate_left
         ·
          rintro w' ⟨s0, s1, s2⟩
          go_simp
          with_reducible rfl
         rotate_left
         ·
          simp only [Act.put, List.setIfInBounds_toArray, List.set_cons_zero, List.set_cons_succ, i64_w, i32_w]
          rfl
         refine one_ (i := 16) (N := some 82) #[true, true, true, true, true, true, true, true, true, true, true, true, true, true, true, true, true, false, false, false] rfl rfl (one_of HT_.out (by kernel_rfl)) (by decide) (fun K hK => ?_)
         refine goes_ Try.func57 (by kernel_rfl) rfl #[.slice Ao58 t715.length co58, .int .i64 0] (by rfl) rfl rfl (by (try simp only [List.map_toArray, List.map_cons, List.map_nil]); first | done | rfl | (simp only [List.length_drop, List.length_take]; rfl)) ?_
         with_reducible refine (tabardref2_Part.calls k _ _ t715 0 t724 _ ?side1 ?side2 A23.out).mono ?_
         (case side1 => repeat (first | exact (Kd.R_reads' HO718.out).2.2 | (with_reducible refine Kd.C_alloc ?_ _) | (with_reducible refine Kd.C_drewN ?_ _) | (with_reducible refine Kd.C_drew ?_)))
         (case side2 => exact (Kd.R_reads' HO718.out).2.1)
         rintro e w' ⟨rfl, ⟨nd, rfl⟩⟩
         refine ⟨_, rfl, ?_⟩
         refine hK.out _ _ ⟨(zmq BK711.out 0).trans rfl, (zmq BK711.out 1).trans rfl, (zmq BK711.out 2).trans rfl⟩ (fun hHeld => ?_)
         clear hK K
         refine norm_ (a' := ?_) ?_ ?_
         rotate_left
         ·
          show Act.put _ (some 82) _ = _
          simp only [Act.put, List.setIfInBounds_toArray, List.set_cons_zero, List.set_cons_succ, i64_w, i32_w]
          rfl
         refine pure_ (i := 17) (N := some 83) (v := ?_) (a' := ?_) #[true, true, true, true, true, true, true, true, true, true, true, true, true, true, true, true, true, true, false, false] rfl rfl (any_of HT_.out (by kernel_rfl)) (fun _ _ _ h => h) (Or.inl ⟨by rfl, ?_⟩) ?_ ?_
         rotate_left
         ·
          intro w'
          go_simp
          with_reducible rfl
         rotate_left
         ·
          simp only [Act.put, List.setIfInBounds_toArray, List.set_cons_zero, List.set_cons_succ, i64_w, i32_w]
          rfl
         refine pure_ (i := 18) (N := some 84) (v := ?_) (a' := ?_) #[true, true, true, true, true, true, true, true, true, true, true, true, true, true, true, true, true, true, true, false] rfl rfl (any_of HT_.out (by kernel_rfl)) (fun _ _ _ h => h) (Or.inl ⟨by rfl, ?_⟩) ?_ ?_
         rotate_left
         ·
          intro w'
          go_simp
          with_reducible rfl
         rotate_left
         ·
          simp only [Act.put, List.setIfInBounds_toArray, List.set_cons_zero, List.set_cons_succ, i64_w, i32_w]
          rfl
         refine pure_ (i := 19) (N := some 17) (v := ?_) (a' := ?_) #[true, true, true, true, true, true, true, true, true, true, true, true, true, true, true, true, true, true, true, true] rfl rfl (any_of HT_.out (by kernel_rfl)) (fun _ _ _ h => h) (Or.inl ⟨by rfl, ?_⟩) ?_ ?_
         rotate_left
         ·
          intro w'
          go_simp
          with_reducible rfl
         rotate_left
         ·
          simp only [Act.put, List.setIfInBounds_toArray, List.set_cons_zero, List.set_cons_succ, i64_w, i32_w]
          rfl
         refine done_ (done_of HT_.out (by kernel_rfl)) ?_
         try go_wp2
         (try ((try simp only [World.drewN_drewN]); rw [drewN_self w57]; generalize hq_ : World.drewN w57 _ = w57; have n0_ := zA (Kd.R_at hq_ HO700.out); have n1_ := zA (Kd.R_at hq_ HO703.out); have n2_ := zA (Kd.R_at hq_ HO706.out); have n3_ := zA (Kd.R_at hq_ HO714.out); have n4_ := zA (Kd.R_at hq_ HO718.out); have n5_ := zA (blk_at hq_ BK691.out); have n6_ := zA (blk_at hq_ BK692.out); have n7_ := zA (blk_at hq_ BK697.out); have n8_ := zA (blk_at hq_ BK711.out); have n9_ := zA (below_at hq_ HB.out); clear hq_ HO700 HO703 HO706 HO714 HO718 BK691 BK692 BK697 BK711 HB; have HO700 := n0_; have HO703 := n1_; have HO706 := n2_; have HO714 := n3_; have HO718 := n4_; have BK691 := n5_; have BK692 := n6_; have BK697 := n7_; have BK711 := n8_; have HB := n9_; clear n0_ n1_ n2_ n3_ n4_ n5_ n6_ n7_ n8_ n9_))
         have n0_ := zA (Kd.R_drew HO700.out)
         have n1_ := zA (Kd.R_drew HO703.out)
         have n2_ := zA (Kd.R_drew HO706.out)
         have n3_ := zA (Kd.R_drew HO714.out)
         have n4_ := zA (Kd.R_drew HO718.out)
         have n5_ := zA (zhq BK691.out)
         have n6_ := zA (zhq BK692.out)
         have n7_ := zA (zhq BK697.out)
         have n8_ := zA (zhq BK711.out)
         have n9_ := zA (zcq HB.out)
         clear HO700
         clear HO703
         clear HO706
         clear HO714
         clear HO718
         clear BK691
         clear BK692
         clear BK697
         clear BK711
         clear HB
         have HO700 := n0_
         have HO703 := n1_
         have HO706 := n2_
         have HO714 := n3_
         have HO718 := n4_
         have BK691 := n5_
         have BK692 := n6_
         have BK697 := n7_
         have BK711 := n8_
         have HB := n9_
         clear n0_ n1_ n2_ n3_ n4_ n5_ n6_ n7_ n8_ n9_
         refine start_ (n := 20) (S := fun w' => w'.cell? ⟨gb692, 0, none⟩ = some (.int .u64 a2_0) ∧ w'.cell? ⟨gb692, 1, none⟩ = some (.int .u64 a2_1) ∧ w'.cell? ⟨gb692, 2, none⟩ = some (.int .u64 a2_2)) (ds := []) #[false, false, false, false, false, false, false, false, false, false, false, false, false, false, false, false, false, false, false, false] (by kernel_rfl) rfl rfl ⟨(zmq BK692.out 0).trans rfl, (zmq BK692.out 1).trans rfl, (zmq BK692.out 2).trans rfl⟩ (fun hHeld => ?_); refine with_tabW tabardlaw2_WideTimes.tab10 tabardlaw2_WideTimes.bits10 (fun HT_ HW_ => ?_)
         generalize w57.drew = w59 at HO700 HO703 HO706 HO714 HO718 BK691 BK692 BK697 BK711 HB hHeld ⊢
         refine pure_ (i := 0) (N := some 85) (v := ?_) (a' := ?_) #[true, false, false, false, false, false, false, false, false, false, false, false, false, false, false, false, false, false, false, false] rfl rfl (any_of HT_.out (by kernel_rfl)) (fun _ _ _ h => h) (Or.inl ⟨by rfl, ?_⟩) ?_ ?_
         rotate_left
         ·
          intro w'
          go_simp
          with_reducible rfl
         rotate_left
         ·
          simp only [Act.put, List.setIfInBounds_toArray, List.set_cons_zero, List.set_cons_succ, i64_w, i32_w]
          rfl
         refine pure_ (i := 1) (N := some 86) (v := ?_) (a' := ?_) #[true, true, false, false, false, false, false, false, false, false, false, false, false, false, false, false, false, false, false, false] rfl rfl (any_of HT_.out (by kernel_rfl)) (fun _ _ _ h => h) (Or.inl ⟨by rfl, ?_⟩) ?_ ?_
         rotate_left
         ·
          intro w'
          go_simp
          with_reducible rfl
         rotate_left
         ·
          simp only [Act.put, List.setIfInBounds_toArray, List.set_cons_zero, List.set_cons_succ, i64_w, i32_w]
          rfl
         refine pure_ (i := 2) (N := some 87) (v := ?_) (a' := ?_) #[true, true, true, false, false, false, false, false, false, false, false, false, false, false, false, false, false, false, false, false] rfl rfl (any_of HT_.out (by kernel_rfl)) (fun _ _ _ h => h) (Or.inl ⟨by rfl, ?_⟩) ?_ ?_
         rotate_left
         ·
          intro w'
          go_simp
          with_reducible rfl
         rotate_left
         ·
          simp only [Act.put, List.setIfInBounds_toArray, List.set_cons_zero, List.set_cons_succ, i64_w, i32_w]
          rfl
         refine pure_ (i := 3) (N := some 88) (v := ?_) (a' := ?_) #[true, true, true, true, false, false, false, false, false, false, false, false, false, false, false, false, false, false, false, false] rfl rfl (any_of HT_.out (by kernel_rfl)) (fun _ _ _ h => h) (Or.inl ⟨by rfl, ?_⟩) ?_ ?_
         rotate_left
         ·
          intro w'
          go_simp
          with_reducible rfl
         rotate_left
         ·
          simp only [Act.put, List.setIfInBounds_toArray, List.set_cons_zero, List.set_cons_succ, i64_w, i32_w]
          rfl
         refine pure_ (i := 4) (N := some 89) (v := ?_) (a' := ?_) #[true, true, true, true, true, false, false, false, false, false, false, false, false, false, false, false, false, false, false, false] rfl rfl (any_of HT_.out (by kernel_rfl)) (fun _ _ _ h => h) (Or.inl ⟨by rfl, ?_⟩) ?_ ?_
         rotate_left
         ·
          intro w'
          go_simp
          with_reducible rfl
         rotate_left
         ·
          simp only [Act.put, List.setIfInBounds_toArray, List.set_cons_zero, List.set_cons_succ, i64_w, i32_w]
          rfl
         refine pure_ (i := 5) (N := some 90) (v := ?_) (a' := ?_) #[true, true, true, true, true, true, false, false, false, false, false, false, false, false, false, false, false, false, false, false] rfl rfl (any_of HT_.out (by kernel_rfl)) (fun _ _ _ h => h) (Or.inl ⟨by rfl, ?_⟩) ?_ ?_
         rotate_left
         ·
          intro w'
          go_simp
          with_reducible rfl
         rotate_left
         ·
          simp only [Act.put, List.setIfInBounds_toArray, List.set_cons_zero, List.set_cons_succ, i64_w, i32_w]
          rfl
         refine pure_ (i := 6) (N := some 91) (v := ?_) (a' := ?_) #[true, true, true, true, true, true, true, false, false, false, false, false, false, false, false, false, false, false, false, false] rfl rfl (any_of HT_.out (by kernel_rfl)) (fun _ _ _ h => h) (Or.inl ⟨by rfl, ?_⟩) ?_ ?_
         rotate_left
         ·
          intro w'
          go_simp
          with_reducible rfl
         rotate_left
         ·
          simp only [Act.put, List.setIfInBounds_toArray, List.set_cons_zero, List.set_cons_succ, i64_w, i32_w]
          rfl
         refine pure_ (i := 7) (N := some 92) (v := ?_) (a' := ?_) #[true, true, true, true, true, true, true, true, false, false, false, false, false, false, false, false, false, false, false, false] rfl rfl (any_of HT_.out (by kernel_rfl)) (fun _ _ _ h => h) (Or.inl ⟨by rfl, ?_⟩) ?_ ?_
         rotate_left
         ·
          intro w'
          go_simp
          with_reducible rfl
         rotate_left
         ·
          simp only [Act.put, List.setIfInBounds_toArray, List.set_cons_zero, List.set_cons_succ, i64_w, i32_w]
          rfl
         refine pure_ (i := 8) (N := some 93) (v := ?_) (a' := ?_) #[true, true, true, true, true, true, true, true, true, false, false, false, false, false, false, false, false, false, false, false] rfl rfl (any_of HT_.out (by kernel_rfl)) (fun _ _ _ h => h) (Or.inl ⟨by rfl, ?_⟩) ?_ ?_
         rotate_left
         ·
          intro w'
          go_simp
          with_reducible rfl
         rotate_left
         ·
          simp only [Act.put, List.setIfInBounds_toArray, List.set_cons_zero, List.set_cons_succ, i64_w, i32_w]
          rfl
         refine pure_ (i := 9) (N := some 94) (v := ?_) (a' := ?_) #[true, true, true, true, true, true, true, true, true, true, false, false, false, false, false, false, false, false, false, false] rfl rfl (any_of HT_.out (by kernel_rfl)) (fun _ _ _ h => h) (Or.inl ⟨by rfl, ?_⟩) ?_ ?_
         rotate_left
         ·
          intro w'
          go_simp
          with_reducible rfl
         rotate_left
         ·
          simp only [Act.put, List.setIfInBounds_toArray, List.set_cons_zero, List.set_cons_succ, i64_w, i32_w]
          rfl
         refine pure_ (i := 12) (N := some 97) (v := ?_) (a' := ?_) #[true, true, true, true, true, true, true, true, true, true, false, false, true, false, false, false, false, false, false, false] rfl rfl (any_of HT_.out (by kernel_rfl)) (fun _ _ _ h => h) (Or.inl ⟨by rfl, ?_⟩) ?_ ?_
         rotate_left
         ·
          intro w'
          go_simp
          with_reducible rfl
         rotate_left
         ·
          simp only [Act.put, List.setIfInBounds_toArray, List.set_cons_zero, List.set_cons_succ, i64_w, i32_w]
          rfl
         refine pure_ (i := 14) (N := some 99) (v := ?_) (a' := ?_) #[true, true, true, true, true, true, true, true, true, true, false, false, true, false, true, false, false, false, false, false] rfl rfl (any_of HT_.out (by kernel_rfl)) (fun _ _ _ h => h) (Or.inl ⟨by rfl, ?_⟩) ?_ ?_
         rotate_left
         ·
          intro w'
          go_simp
          with_reducible rfl
         rotate_left
         ·
          simp only [Act.put, List.setIfInBounds_toArray, List.set_cons_zero, List.set_cons_succ, i64_w, i32_w]
          rfl
         refine take_ (i := 10) (N := some 95) (v := ?_) (a' := ?_) #[true, true, true, true, true, true, true, true, true, true, true, false, true, false, true, false, false, false, false, false] rfl rfl (take_ofW HT_.out HW_.out (by kernel_rfl)) (fun _ _ _ h => h) (Or.inl ⟨by rfl, ?_⟩) hHeld ?_ ?_
         rotate_left
         ·
          rintro w' ⟨s0, s1, s2⟩
          go_simp
          with_reducible rfl
         rotate_left
         ·
          simp only [Act.put, List.setIfInBounds_toArray, List.set_cons_zero, List.set_cons_succ, i64_w, i32_w]
          rfl
         refine take_ (i := 13) (N := some 98) (v := ?_) (a' := ?_) #[true, true, true, true, true, true, true, true, true, true, true, false, true, true, true, false, false, false, false, false] rfl rfl (take_ofW HT_.out HW_.out (by kernel_rfl)) (fun _ _ _ h => h) (Or.inl ⟨by rfl, ?_⟩) hHeld ?_ ?_
         rotate_left
         ·
          rintro w' ⟨s0, s1, s2⟩
          go_simp
          with_reducible rfl
         rotate_left
         ·
          simp only [Act.put, List.setIfInBounds_toArray, List.set_cons_zero, List.set_cons_succ, i64_w, i32_w]
          rfl
         refine take_ (i := 15) (N := some 100) (v := ?_) (a' := ?_) #[true, true, true, true, true, true, true, true, true, true, true, false, true, true, true, true, false, false, false, false] rfl rfl (take_ofW HT_.out HW_.out (by kernel_rfl)) (fun _ _ _ h => h) (Or.inl ⟨by rfl, ?_⟩) hHeld ?_ ?_
         rotate_left
         ·
          rintro w' ⟨s0, s1, s2⟩
          go_simp
          with_reducible rfl
         rotate_left
         ·
          simp only [Act.put, List.setIfInBounds_toArray, List.set_cons_zero, List.set_cons_succ, i64_w, i32_w]
          rfl
         refine pure_ (i := 16) (N := some 101) (v := ?_) (a' := ?_) #[true, true, true, true, true, true, true, true, true, true, true, false, true, true, true, true, true, false, false, false] rfl rfl (any_of HT_.out (by kernel_rfl)) (fun _ _ _ h => h) (Or.inl ⟨by rfl, ?_⟩) ?_ ?_
         rotate_left
         ·
          intro w'
          go_simp
          with_reducible rfl
         rotate_left
         ·
          simp only [Act.put, List.setIfInBounds_toArray, List.set_cons_zero, List.set_cons_succ, i64_w, i32_w]
          rfl
         refine one_ (i := 11) (N := some 96) #[true, true, true, true, true, true, true, true, true, true, true, true, true, true, true, true, true, false, false, false] rfl rfl (one_of HT_.out (by kernel_rfl)) (by decide) (fun K hK => ?_)
         refine goes_ Try.func62 (by kernel_rfl) rfl #[.agg #[.int .u64 a2_0, .int .u64 a2_1, .int .u64 a2_2]] (by rfl) rfl rfl (by (try simp only [List.map_toArray, List.map_cons, List.map_nil]); first | done | rfl | (simp only [List.length_drop, List.length_take]; rfl)) ?_
         with_reducible refine (wide_Low.calls a2_0 a2_1 a2_2 t725 t726 _ A27.out).mono ?_
         rintro e w60 ⟨rfl, hb⟩
         refine ⟨_, rfl, ?_⟩
         have n0_ := zA (Kd.R_below (by (with_reducible repeat (first | apply Kd.R_alloc | apply Kd.R_drewN | apply Kd.R_drew)); exact HO700.out) hb)
         have n1_ := zA (Kd.R_below (by (with_reducible repeat (first | apply Kd.R_alloc | apply Kd.R_drewN | apply Kd.R_drew)); exact HO703.out) hb)
         have n2_ := zA (Kd.R_below (by (with_reducible repeat (first | apply Kd.R_alloc | apply Kd.R_drewN | apply Kd.R_drew)); exact HO706.out) hb)
         have n3_ := zA (Kd.R_below (by (with_reducible repeat (first | apply Kd.R_alloc | apply Kd.R_drewN | apply Kd.R_drew)); exact HO714.out) hb)
         have n4_ := zA (Kd.R_below (by (with_reducible repeat (first | apply Kd.R_alloc | apply Kd.R_drewN | apply Kd.R_drew)); exact HO718.out) hb)
         have n5_ := zA (zlq (g := gb691) (o := .cells #[.int .u64 a0_0, .int .u64 a0_1] 24 (0, 0)) (by (with_reducible repeat (first | refine zgq ?_ _ | refine zhq ?_ | refine ziq ?_ _)); exact BK691.out) hb)
         have n6_ := zA (zlq (g := gb692) (o := .cells #[.int .u64 a2_0, .int .u64 a2_1, .int .u64 a2_2] 69 (0, 0)) (by (with_reducible repeat (first | refine zgq ?_ _ | refine zhq ?_ | refine ziq ?_ _)); exact BK692.out) hb)
         have n7_ := zA (zlq (g := gb697) (o := .cells #[.int .u64 t694, .int .u64 t695, .int .u64 t696] 69 (0, 0)) (by (with_reducible repeat (first | refine zgq ?_ _ | refine zhq ?_ | refine ziq ?_ _)); exact BK697.out) hb)
         have n8_ := zA (zlq (g := gb711) (o := .cells #[.int .u64 t707, .int .u64 t708, .int .u64 t709] 69 (0, 0)) (by (with_reducible repeat (first | refine zgq ?_ _ | refine zhq ?_ | refine ziq ?_ _)); exact BK711.out) hb)
         have n9_ := zA (zeq (by repeat (first | (with_reducible first | exact HB.out | apply zaq | apply zbq | apply zcq | refine zdq ?_ GE691.out | refine zdq ?_ GE692.out | refine zdq ?_ GE697.out | refine zdq ?_ GE711.out) | exact HB.out)) hb)
         clear HO700
         clear HO703
         clear HO706
         clear HO714
         clear HO718
         clear BK691
         clear BK692
         clear BK697
         clear BK711
         clear HB
         have HO700 := n0_
         have HO703 := n1_
         have HO706 := n2_
         have HO714 := n3_
         have HO718 := n4_
         have BK691 := n5_
         have BK692 := n6_
         have BK697 := n7_
         have BK711 := n8_
         have HB := n9_
         clear n0_ n1_ n2_ n3_ n4_ n5_ n6_ n7_ n8_ n9_
         (try clear hb)
         (try clear hb2)
         (try clear hk)
         (try clear hi)
         refine hK.out _ _ ⟨(zmq BK692.out 0).trans rfl, (zmq BK692.out 1).trans rfl, (zmq BK692.out 2).trans rfl⟩ (fun hHeld => ?_)
         clear hK K
         refine norm_ (a' := ?_) ?_ ?_
         rotate_left
         ·
          show Act.put _ (some 96) _ = _
          simp only [Act.put, List.setIfInBounds_toArray, List.set_cons_zero, List.set_cons_succ, i64_w, i32_w]
          rfl
         refine pure_ (i := 17) (N := some 102) (v := ?_) (a' := ?_) #[true, true, true, true, true, true, true, true, true, true, true, true, true, true, true, true, true, true, false, false] rfl rfl (any_of HT_.out (by kernel_rfl)) (fun _ _ _ h => h) (Or.inl ⟨by rfl, ?_⟩) ?_ ?_
         rotate_left
         ·
          intro w'
          go_simp
          with_reducible rfl
         rotate_left
         ·
          simp only [Act.put, List.setIfInBounds_toArray, List.set_cons_zero, List.set_cons_succ, i64_w, i32_w]
          rfl
         refine pure_ (i := 18) (N := some 103) (v := ?_) (a' := ?_) #[true, true, true, true, true, true, true, true, true, true, true, true, true, true, true, true, true, true, true, false] rfl rfl (any_of HT_.out (by kernel_rfl)) (fun _ _ _ h => h) (Or.inl ⟨by rfl, ?_⟩) ?_ ?_
         rotate_left
         ·
          intro w'
          go_simp
          with_reducible rfl
         rotate_left
         ·
          simp only [Act.put, List.setIfInBounds_toArray, List.set_cons_zero, List.set_cons_succ, i64_w, i32_w]
          rfl
         refine pure_ (i := 19) (N := some 8) (v := ?_) (a' := ?_) #[true, true, true, true, true, true, true, true, true, true, true, true, true, true, true, true, true, true, true, true] rfl rfl (any_of HT_.out (by kernel_rfl)) (fun _ _ _ h => h) (Or.inl ⟨by rfl, ?_⟩) ?_ ?_
         rotate_left
         ·
          intro w'
          go_simp
          with_reducible rfl
         rotate_left
         ·
          simp only [Act.put, List.setIfInBounds_toArray, List.set_cons_zero, List.set_cons_succ, i64_w, i32_w]
          rfl
         refine done_ (done_of HT_.out (by kernel_rfl)) ?_
         try go_wp2
         go_ret
         exact ⟨by first | rfl | (simp [errW_none, errW_some] <;> rfl) | (simp [*, errW_none, errW_some] <;> rfl), by repeat (first | (with_reducible first | exact HB.out | apply zaq | apply zbq | apply zcq | refine zdq ?_ GE691.out | refine zdq ?_ GE692.out | refine zdq ?_ GE697.out | refine zdq ?_ GE711.out) | exact HB.out)⟩
        ·
         rw [if_neg c26] at H
         have c26b0 : (t710 == t716) = false := by simpa using c26
         (try (have c26b1 : decide (t710 = t716) = false := by simpa using c26))
         (try (have c26b2 : (t710 == t716) = false := by simpa using c26))
         (try (have c26b3 : ¬ (t710 = t716) := by simpa using c26))
         clear c26
         exact absurd H (by simp)
       ·
        rw [if_neg c25] at H
        have c25b0 : (t709 == t724) = false := beq_eq_false_iff_ne.mpr c25
        have c25b1 : (t709 != t724) = true := bne_iff_ne.mpr c25
        exact absurd H (by simp)
      ·
       rw [if_neg c24] at H
       have c24b0 : (t696 == t721) = false := beq_eq_false_iff_ne.mpr c24
       have c24b1 : (t696 != t721) = true := bne_iff_ne.mpr c24
       exact absurd H (by simp)
     ·
      rw [if_neg c22] at H
      have c22b0 : (t708 == t723) = false := beq_eq_false_iff_ne.mpr c22
      have c22b1 : (t708 != t723) = true := bne_iff_ne.mpr c22
      by_cases c61 : t696 = t721
      ·
       rw [if_pos c61] at H
       have c61b0 : (t696 == t721) = true := beq_iff_eq.mpr c61
       have c61b1 : (t696 != t721) = false := bne_eq_false_iff_eq.mpr c61
       clear c61
       exact absurd H (by simp)
      ·
       rw [if_neg c61] at H
       have c61b0 : (t696 == t721) = false := beq_eq_false_iff_ne.mpr c61
       have c61b1 : (t696 != t721) = true := bne_iff_ne.mpr c61
       exact absurd H (by simp)
    ·
     rw [if_neg c20] at H
     have c20b0 : (t707 == t722) = false := beq_eq_false_iff_ne.mpr c20
     have c20b1 : (t707 != t722) = true := bne_iff_ne.mpr c20
     by_cases c62 : t696 = t721
     ·
      rw [if_pos c62] at H
      have c62b0 : (t696 == t721) = true := beq_iff_eq.mpr c62
      have c62b1 : (t696 != t721) = false := bne_eq_false_iff_eq.mpr c62
      clear c62
      exact absurd H (by simp)
     ·
      rw [if_neg c62] at H
      have c62b0 : (t696 == t721) = false := beq_eq_false_iff_ne.mpr c62
      have c62b1 : (t696 != t721) = true := bne_iff_ne.mpr c62
      exact absurd H (by simp)
   ·
    rw [if_neg c17] at H
    have c17b0 : (t695 == t720) = false := beq_eq_false_iff_ne.mpr c17
    have c17b1 : (t695 != t720) = true := bne_iff_ne.mpr c17
    replace H := Option.bind_eq_some_iff.mp H
    obtain ⟨t727, A630, H⟩ := H
    replace H : (if t707 = t727 then ((tabardref2_Part.f k t715 1).bind fun t728 => (if t708 = t728 then ((tabardref2_Part.f k t715 0).bind fun t729 => (none)) else (none))) else (none)) = some r := H
    have A63 := zA A630
    clear A630
    by_cases c64 : t707 = t727
    ·
     rw [if_pos c64] at H
     have c64b0 : (t707 == t727) = true := beq_iff_eq.mpr c64
     have c64b1 : (t707 != t727) = false := bne_eq_false_iff_eq.mpr c64
     clear c64
     replace H := Option.bind_eq_some_iff.mp H
     obtain ⟨t728, A650, H⟩ := H
     replace H : (if t708 = t728 then ((tabardref2_Part.f k t715 0).bind fun t729 => (none)) else (none)) = some r := H
     have A65 := zA A650
     clear A650
     by_cases c66 : t708 = t728
     ·
      rw [if_pos c66] at H
      have c66b0 : (t708 == t728) = true := beq_iff_eq.mpr c66
      have c66b1 : (t708 != t728) = false := bne_eq_false_iff_eq.mpr c66
      clear c66
      replace H := Option.bind_eq_some_iff.mp H
      obtain ⟨t729, A670, H⟩ := H
      replace H : (none) = some r := H
      have A67 := zA A670
      clear A670
      exact absurd H (by simp)
     ·
      rw [if_neg c66] at H
      have c66b0 : (t708 == t728) = false := beq_eq_false_iff_ne.mpr c66
      have c66b1 : (t708 != t728) = true := bne_iff_ne.mpr c66
      exact absurd H (by simp)
    ·
     rw [if_neg c64] at H
     have c64b0 : (t707 == t727) = false := beq_eq_false_iff_ne.mpr c64
     have c64b1 : (t707 != t727) = true := bne_iff_ne.mpr c64
     exact absurd H (by simp)
  ·
   rw [if_neg c15] at H
   have c15b0 : (t694 == t719) = false := beq_eq_false_iff_ne.mpr c15
   have c15b1 : (t694 != t719) = true := bne_iff_ne.mpr c15
   replace H := Option.bind_eq_some_iff.mp H
   obtain ⟨t730, A680, H⟩ := H
   replace H : (if t707 = t730 then ((tabardref2_Part.f k t715 1).bind fun t731 => (if t708 = t731 then ((tabardref2_Part.f k t715 0).bind fun t732 => (none)) else (none))) else (none)) = some r := H
   have A68 := zA A680
   clear A680
   by_cases c69 : t707 = t730
   ·
    rw [if_pos c69] at H
    have c69b0 : (t707 == t730) = true := beq_iff_eq.mpr c69
    have c69b1 : (t707 != t730) = false := bne_eq_false_iff_eq.mpr c69
    clear c69
    replace H := Option.bind_eq_some_iff.mp H
    obtain ⟨t731, A700, H⟩ := H
    replace H : (if t708 = t731 then ((tabardref2_Part.f k t715 0).bind fun t732 => (none)) else (none)) = some r := H
    have A70 := zA A700
    clear A700
    by_cases c71 : t708 = t731
    ·
     rw [if_pos c71] at H
     have c71b0 : (t708 == t731) = true := beq_iff_eq.mpr c71
     have c71b1 : (t708 != t731) = false := bne_eq_false_iff_eq.mpr c71
     clear c71
     replace H := Option.bind_eq_some_iff.mp H
     obtain ⟨t732, A720, H⟩ := H
     replace H : (none) = some r := H
     have A72 := zA A720
     clear A720
     exact absurd H (by simp)
    ·
     rw [if_neg c71] at H
     have c71b0 : (t708 == t731) = false := beq_eq_false_iff_ne.mpr c71
     have c71b1 : (t708 != t731) = true := bne_iff_ne.mpr c71
     exact absurd H (by simp)
   ·
    rw [if_neg c69] at H
    have c69b0 : (t707 == t730) = false := beq_eq_false_iff_ne.mpr c69
    have c69b1 : (t707 != t730) = true := bne_iff_ne.mpr c69
    exact absurd H (by simp)
 ·
  replace c6 := Bool.eq_false_iff.mpr c6
  subst c6
  have H1 : (none) = some r := by rw [if_neg (show ¬ (false = true) by decide)] at H; exact H
  clear H
  have H := H1
  clear H1
  exact absurd H (by simp)

end Go.Proofs.Ytbejjlecpcphoaa.P
