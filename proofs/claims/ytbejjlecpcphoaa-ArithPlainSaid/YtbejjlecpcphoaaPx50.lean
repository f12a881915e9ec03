-- Written by a program of this session's (a turned print), not by hand.
import Derived.Test.YtbejjlecpcphoaaPx0
import Derived.Test.YtbejjlecpcphoaaPx47
import Derived.Test.YtbejjlecpcphoaaPx49
namespace Go.Proofs.Ytbejjlecpcphoaa.P
open Go.RowKit Go.Proofs.YtbejjlecpcphoaaW.PrintWords Go.Proofs.YtbejjlecpcphoaaW.PrintLast Go.Proofs.YtbejjlecpcphoaaW.PrintMore
attribute [local go_sem] max2_int min2_int max_two min_two max_three min_three max_four min_four   -- for this text's walks alone
set_option linter.unusedVariables false
set_option linter.unusedSimpArgs false

/-! ### tabardlaw4_shown: function 63 -/
def tabardlaw4_shown.f (k : Nat)  : Option (Bool) := (arith_Add.f k 4607182418800017408 4368491638549381120).bind fun t835 => (if t835 = 4607182418800017408 then ((arith_Add.f k 4607182418800017409 4368491638549381120).bind fun t836 => (if t836 = 4607182418800017410 then ((arith_Add.f k 4607182418800017408 13830554455654793216).bind fun t837 => (if t837 = 0 then ((arith_Add.f k 9223372036854775808 9223372036854775808).bind fun t838 => (if t838 = 9223372036854775808 then ((arith_Add.f k 9223372036854775808 0).bind fun t839 => ((arith_Add.f k 9218868437227405312 18442240474082181120).bind fun t840 => (if t840 = 9221120237041090560 then ((arith_Add.f k 9218868437227405312 4617315517961601024).bind fun t841 => (if t841 = 9218868437227405312 then ((arith_Add.f k 9218868437227405311 9218868437227405311).bind fun t842 => (if t842 = 9218868437227405312 then ((arith_Sub.f k 4613937818241073152 4617315517961601024).bind fun t843 => ((arith_Mul.f k 4591870180066957722 4613937818241073152).bind fun t844 => (if t844 = 4599075939470750516 then ((arith_Mul.f k 9218868437227405312 0).bind fun t845 => (if t845 = 9221120237041090560 then ((arith_Mul.f k 9223372036854775808 4617315517961601024).bind fun t846 => (if t846 = 9223372036854775808 then ((arith_Mul.f k 1 4602678819172646912).bind fun t847 => (if t847 = 0 then ((arith_Mul.f k 1 4604930618986332160).bind fun t848 => ((arith_Sum.f k ([] : List Int)).bind fun t849 => (if t849 = 0 then ((arith_Sum.f k (([9223372036854775808] : List Int))).bind fun t853 => (if t853 = 0 then ((arith_Sum.f k (([4845873199050653696, 4607182418800017408, 4607182418800017408] : List Int))).bind fun t857 => (if t839 = 0 then (if t843 = 13835058055282163712 then (if t848 = 1 then (some (t857 == 4845873199050653696)) else (none)) else (none)) else (none))) else (none))) else (none)))) else (none))) else (none))) else (none))) else (none)))) else (none))) else (none))) else (none)))) else (none))) else (none))) else (none))) else (none))
theorem tabardlaw4_shown.mono : ∀ k, LeO (tabardlaw4_shown.f k ) (tabardlaw4_shown.f (k + 1) ) := by
 intro  k
 unfold tabardlaw4_shown.f
 repeat' first
   | (with_reducible exact arith_Add.mono _ _ _)
   | (with_reducible exact arith_Mul.mono _ _ _)
   | (with_reducible exact arith_Sub.mono _ _ _)
   | (with_reducible exact arith_Sum.mono _ _)
   | (with_reducible exact LeO.refl _)
   | (with_reducible exact LeO.none _)
   | (with_reducible refine LeO.ite ?_ ?_)
   | (with_reducible refine LeO.bind ?_ (fun _ => ?_))
   | exact arith_Add.mono _ _ _
   | exact arith_Mul.mono _ _ _
   | exact arith_Sub.mono _ _ _
   | exact arith_Sum.mono _ _
   | exact LeO.none _
   | refine LeO.ite ?_ ?_
   | refine LeO.bind ?_ (fun _ => ?_)
set_option maxHeartbeats 8000000 in
set_option maxRecDepth 100000 in
theorem tabardlaw4_shown.calls (k : Nat)  (r : Bool) (w : World) (h : tabardlaw4_shown.f k  = some r) :
  Calls Try.prog 63 #[] w fun e w' => e = .returned (.bool r) ∧ Below w.heap.size w w' := by
 have HB := zA (Below.refl w.heap.size w)
 have H : ((arith_Add.f k 4607182418800017408 4368491638549381120).bind fun t835 => (if t835 = 4607182418800017408 then ((arith_Add.f k 4607182418800017409 4368491638549381120).bind fun t836 => (if t836 = 4607182418800017410 then ((arith_Add.f k 4607182418800017408 13830554455654793216).bind fun t837 => (if t837 = 0 then ((arith_Add.f k 9223372036854775808 9223372036854775808).bind fun t838 => (if t838 = 9223372036854775808 then ((arith_Add.f k 9223372036854775808 0).bind fun t839 => ((arith_Add.f k 9218868437227405312 18442240474082181120).bind fun t840 => (if t840 = 9221120237041090560 then ((arith_Add.f k 9218868437227405312 4617315517961601024).bind fun t841 => (if t841 = 9218868437227405312 then ((arith_Add.f k 9218868437227405311 9218868437227405311).bind fun t842 => (if t842 = 9218868437227405312 then ((arith_Sub.f k 4613937818241073152 4617315517961601024).bind fun t843 => ((arith_Mul.f k 4591870180066957722 4613937818241073152).bind fun t844 => (if t844 = 4599075939470750516 then ((arith_Mul.f k 9218868437227405312 0).bind fun t845 => (if t845 = 9221120237041090560 then ((arith_Mul.f k 9223372036854775808 4617315517961601024).bind fun t846 => (if t846 = 9223372036854775808 then ((arith_Mul.f k 1 4602678819172646912).bind fun t847 => (if t847 = 0 then ((arith_Mul.f k 1 4604930618986332160).bind fun t848 => ((arith_Sum.f k ([] : List Int)).bind fun t849 => (if t849 = 0 then ((arith_Sum.f k (([9223372036854775808] : List Int))).bind fun t853 => (if t853 = 0 then ((arith_Sum.f k (([4845873199050653696, 4607182418800017408, 4607182418800017408] : List Int))).bind fun t857 => (if t839 = 0 then (if t843 = 13835058055282163712 then (if t848 = 1 then (some (t857 == 4845873199050653696)) else (none)) else (none)) else (none))) else (none))) else (none)))) else (none))) else (none))) else (none))) else (none)))) else (none))) else (none))) else (none)))) else (none))) else (none))) else (none))) else (none))) = some r := h
 clear h
 replace H := Option.bind_eq_some_iff.mp H
 obtain ⟨t835, A10, H⟩ := H
 replace H : (if t835 = 4607182418800017408 then ((arith_Add.f k 4607182418800017409 4368491638549381120).bind fun t836 => (if t836 = 4607182418800017410 then ((arith_Add.f k 4607182418800017408 13830554455654793216).bind fun t837 => (if t837 = 0 then ((arith_Add.f k 9223372036854775808 9223372036854775808).bind fun t838 => (if t838 = 9223372036854775808 then ((arith_Add.f k 9223372036854775808 0).bind fun t839 => ((arith_Add.f k 9218868437227405312 18442240474082181120).bind fun t840 => (if t840 = 9221120237041090560 then ((arith_Add.f k 9218868437227405312 4617315517961601024).bind fun t841 => (if t841 = 9218868437227405312 then ((arith_Add.f k 9218868437227405311 9218868437227405311).bind fun t842 => (if t842 = 9218868437227405312 then ((arith_Sub.f k 4613937818241073152 4617315517961601024).bind fun t843 => ((arith_Mul.f k 4591870180066957722 4613937818241073152).bind fun t844 => (if t844 = 4599075939470750516 then ((arith_Mul.f k 9218868437227405312 0).bind fun t845 => (if t845 = 9221120237041090560 then ((arith_Mul.f k 9223372036854775808 4617315517961601024).bind fun t846 => (if t846 = 9223372036854775808 then ((arith_Mul.f k 1 4602678819172646912).bind fun t847 => (if t847 = 0 then ((arith_Mul.f k 1 4604930618986332160).bind fun t848 => ((arith_Sum.f k ([] : List Int)).bind fun t849 => (if t849 = 0 then ((arith_Sum.f k (([9223372036854775808] : List Int))).bind fun t853 => (if t853 = 0 then ((arith_Sum.f k (([4845873199050653696, 4607182418800017408, 4607182418800017408] : List Int))).bind fun t857 => (if t839 = 0 then (if t843 = 13835058055282163712 then (if t848 = 1 then (some (t857 == 4845873199050653696)) else (none)) else (none)) else (none))) else (none))) else (none)))) else (none))) else (none))) else (none))) else (none)))) else (none))) else (none))) else (none)))) else (none))) else (none))) else (none))) else (none)) = some r := H
 have A1 := zA A10
 clear A10
 by_cases c2 : t835 = 4607182418800017408
 ·
  rw [if_pos c2] at H
  have c2b0 : (t835 == 4607182418800017408) = true := beq_iff_eq.mpr c2
  have c2b1 : (t835 != 4607182418800017408) = false := bne_eq_false_iff_eq.mpr c2
  clear c2
  replace H := Option.bind_eq_some_iff.mp H
  obtain ⟨t836, A30, H⟩ := H
  replace H : (if t836 = 4607182418800017410 then ((arith_Add.f k 4607182418800017408 13830554455654793216).bind fun t837 => (if t837 = 0 then ((arith_Add.f k 9223372036854775808 9223372036854775808).bind fun t838 => (if t838 = 9223372036854775808 then ((arith_Add.f k 9223372036854775808 0).bind fun t839 => ((arith_Add.f k 9218868437227405312 18442240474082181120).bind fun t840 => (if t840 = 9221120237041090560 then ((arith_Add.f k 9218868437227405312 4617315517961601024).bind fun t841 => (if t841 = 9218868437227405312 then ((arith_Add.f k 9218868437227405311 9218868437227405311).bind fun t842 => (if t842 = 9218868437227405312 then ((arith_Sub.f k 4613937818241073152 4617315517961601024).bind fun t843 => ((arith_Mul.f k 4591870180066957722 4613937818241073152).bind fun t844 => (if t844 = 4599075939470750516 then ((arith_Mul.f k 9218868437227405312 0).bind fun t845 => (if t845 = 9221120237041090560 then ((arith_Mul.f k 9223372036854775808 4617315517961601024).bind fun t846 => (if t846 = 9223372036854775808 then ((arith_Mul.f k 1 4602678819172646912).bind fun t847 => (if t847 = 0 then ((arith_Mul.f k 1 4604930618986332160).bind fun t848 => ((arith_Sum.f k ([] : List Int)).bind fun t849 => (if t849 = 0 then ((arith_Sum.f k (([9223372036854775808] : List Int))).bind fun t853 => (if t853 = 0 then ((arith_Sum.f k (([4845873199050653696, 4607182418800017408, 4607182418800017408] : List Int))).bind fun t857 => (if t839 = 0 then (if t843 = 13835058055282163712 then (if t848 = 1 then (some (t857 == 4845873199050653696)) else (none)) else (none)) else (none))) else (none))) else (none)))) else (none))) else (none))) else (none))) else (none)))) else (none))) else (none))) else (none)))) else (none))) else (none))) else (none)) = some r := H
  have A3 := zA A30
  clear A30
  by_cases c4 : t836 = 4607182418800017410
  ·
   rw [if_pos c4] at H
   have c4b0 : (t836 == 4607182418800017410) = true := beq_iff_eq.mpr c4
   have c4b1 : (t836 != 4607182418800017410) = false := bne_eq_false_iff_eq.mpr c4
   clear c4
   replace H := Option.bind_eq_some_iff.mp H
   obtain ⟨t837, A50, H⟩ := H
   replace H : (if t837 = 0 then ((arith_Add.f k 9223372036854775808 9223372036854775808).bind fun t838 => (if t838 = 9223372036854775808 then ((arith_Add.f k 9223372036854775808 0).bind fun t839 => ((arith_Add.f k 9218868437227405312 18442240474082181120).bind fun t840 => (if t840 = 9221120237041090560 then ((arith_Add.f k 9218868437227405312 4617315517961601024).bind fun t841 => (if t841 = 9218868437227405312 then ((arith_Add.f k 9218868437227405311 9218868437227405311).bind fun t842 => (if t842 = 9218868437227405312 then ((arith_Sub.f k 4613937818241073152 4617315517961601024).bind fun t843 => ((arith_Mul.f k 4591870180066957722 4613937818241073152).bind fun t844 => (if t844 = 4599075939470750516 then ((arith_Mul.f k 9218868437227405312 0).bind fun t845 => (if t845 = 9221120237041090560 then ((arith_Mul.f k 9223372036854775808 4617315517961601024).bind fun t846 => (if t846 = 9223372036854775808 then ((arith_Mul.f k 1 4602678819172646912).bind fun t847 => (if t847 = 0 then ((arith_Mul.f k 1 4604930618986332160).bind fun t848 => ((arith_Sum.f k ([] : List Int)).bind fun t849 => (if t849 = 0 then ((arith_Sum.f k (([9223372036854775808] : List Int))).bind fun t853 => (if t853 = 0 then ((arith_Sum.f k (([4845873199050653696, 4607182418800017408, 4607182418800017408] : List Int))).bind fun t857 => (if t839 = 0 then (if t843 = 13835058055282163712 then (if t848 = 1 then (some (t857 == 4845873199050653696)) else (none)) else (none)) else (none))) else (none))) else (none)))) else (none))) else (none))) else (none))) else (none)))) else (none))) else (none))) else (none)))) else (none))) else (none)) = some r := H
   have A5 := zA A50
   clear A50
   by_cases c6 : t837 = 0
   ·
    rw [if_pos c6] at H
    have c6b0 : (t837 == 0) = true := beq_iff_eq.mpr c6
    have c6b1 : (t837 != 0) = false := bne_eq_false_iff_eq.mpr c6
    clear c6
    replace H := Option.bind_eq_some_iff.mp H
    obtain ⟨t838, A70, H⟩ := H
    replace H : (if t838 = 9223372036854775808 then ((arith_Add.f k 9223372036854775808 0).bind fun t839 => ((arith_Add.f k 9218868437227405312 18442240474082181120).bind fun t840 => (if t840 = 9221120237041090560 then ((arith_Add.f k 9218868437227405312 4617315517961601024).bind fun t841 => (if t841 = 9218868437227405312 then ((arith_Add.f k 9218868437227405311 9218868437227405311).bind fun t842 => (if t842 = 9218868437227405312 then ((arith_Sub.f k 4613937818241073152 4617315517961601024).bind fun t843 => ((arith_Mul.f k 4591870180066957722 4613937818241073152).bind fun t844 => (if t844 = 4599075939470750516 then ((arith_Mul.f k 9218868437227405312 0).bind fun t845 => (if t845 = 9221120237041090560 then ((arith_Mul.f k 9223372036854775808 4617315517961601024).bind fun t846 => (if t846 = 9223372036854775808 then ((arith_Mul.f k 1 4602678819172646912).bind fun t847 => (if t847 = 0 then ((arith_Mul.f k 1 4604930618986332160).bind fun t848 => ((arith_Sum.f k ([] : List Int)).bind fun t849 => (if t849 = 0 then ((arith_Sum.f k (([9223372036854775808] : List Int))).bind fun t853 => (if t853 = 0 then ((arith_Sum.f k (([4845873199050653696, 4607182418800017408, 4607182418800017408] : List Int))).bind fun t857 => (if t839 = 0 then (if t843 = 13835058055282163712 then (if t848 = 1 then (some (t857 == 4845873199050653696)) else (none)) else (none)) else (none))) else (none))) else (none)))) else (none))) else (none))) else (none))) else (none)))) else (none))) else (none))) else (none)))) else (none)) = some r := H
    have A7 := zA A70
    clear A70
    by_cases c8 : t838 = 9223372036854775808
    ·
     rw [if_pos c8] at H
     have c8b0 : (t838 == 9223372036854775808) = true := beq_iff_eq.mpr c8
     have c8b1 : (t838 != 9223372036854775808) = false := bne_eq_false_iff_eq.mpr c8
     clear c8
     replace H := Option.bind_eq_some_iff.mp H
     obtain ⟨t839, A90, H⟩ := H
     replace H : ((arith_Add.f k 9218868437227405312 18442240474082181120).bind fun t840 => (if t840 = 9221120237041090560 then ((arith_Add.f k 9218868437227405312 4617315517961601024).bind fun t841 => (if t841 = 9218868437227405312 then ((arith_Add.f k 9218868437227405311 9218868437227405311).bind fun t842 => (if t842 = 9218868437227405312 then ((arith_Sub.f k 4613937818241073152 4617315517961601024).bind fun t843 => ((arith_Mul.f k 4591870180066957722 4613937818241073152).bind fun t844 => (if t844 = 4599075939470750516 then ((arith_Mul.f k 9218868437227405312 0).bind fun t845 => (if t845 = 9221120237041090560 then ((arith_Mul.f k 9223372036854775808 4617315517961601024).bind fun t846 => (if t846 = 9223372036854775808 then ((arith_Mul.f k 1 4602678819172646912).bind fun t847 => (if t847 = 0 then ((arith_Mul.f k 1 4604930618986332160).bind fun t848 => ((arith_Sum.f k ([] : List Int)).bind fun t849 => (if t849 = 0 then ((arith_Sum.f k (([9223372036854775808] : List Int))).bind fun t853 => (if t853 = 0 then ((arith_Sum.f k (([4845873199050653696, 4607182418800017408, 4607182418800017408] : List Int))).bind fun t857 => (if t839 = 0 then (if t843 = 13835058055282163712 then (if t848 = 1 then (some (t857 == 4845873199050653696)) else (none)) else (none)) else (none))) else (none))) else (none)))) else (none))) else (none))) else (none))) else (none)))) else (none))) else (none))) else (none))) = some r := H
     have A9 := zA A90
     clear A90
     replace H := Option.bind_eq_some_iff.mp H
     obtain ⟨t840, A100, H⟩ := H
     replace H : (if t840 = 9221120237041090560 then ((arith_Add.f k 9218868437227405312 4617315517961601024).bind fun t841 => (if t841 = 9218868437227405312 then ((arith_Add.f k 9218868437227405311 9218868437227405311).bind fun t842 => (if t842 = 9218868437227405312 then ((arith_Sub.f k 4613937818241073152 4617315517961601024).bind fun t843 => ((arith_Mul.f k 4591870180066957722 4613937818241073152).bind fun t844 => (if t844 = 4599075939470750516 then ((arith_Mul.f k 9218868437227405312 0).bind fun t845 => (if t845 = 9221120237041090560 then ((arith_Mul.f k 9223372036854775808 4617315517961601024).bind fun t846 => (if t846 = 9223372036854775808 then ((arith_Mul.f k 1 4602678819172646912).bind fun t847 => (if t847 = 0 then ((arith_Mul.f k 1 4604930618986332160).bind fun t848 => ((arith_Sum.f k ([] : List Int)).bind fun t849 => (if t849 = 0 then ((arith_Sum.f k (([9223372036854775808] : List Int))).bind fun t853 => (if t853 = 0 then ((arith_Sum.f k (([4845873199050653696, 4607182418800017408, 4607182418800017408] : List Int))).bind fun t857 => (if t839 = 0 then (if t843 = 13835058055282163712 then (if t848 = 1 then (some (t857 == 4845873199050653696)) else (none)) else (none)) else (none))) else (none))) else (none)))) else (none))) else (none))) else (none))) else (none)))) else (none))) else (none))) else (none)) = some r := H
     have A10 := zA A100
     clear A100
     by_cases c11 : t840 = 9221120237041090560
     ·
      rw [if_pos c11] at H
      have c11b0 : (t840 == 9221120237041090560) = true := beq_iff_eq.mpr c11
      have c11b1 : (t840 != 9221120237041090560) = false := bne_eq_false_iff_eq.mpr c11
      clear c11
      replace H := Option.bind_eq_some_iff.mp H
      obtain ⟨t841, A120, H⟩ := H
      replace H : (if t841 = 9218868437227405312 then ((arith_Add.f k 9218868437227405311 9218868437227405311).bind fun t842 => (if t842 = 9218868437227405312 then ((arith_Sub.f k 4613937818241073152 4617315517961601024).bind fun t843 => ((arith_Mul.f k 4591870180066957722 4613937818241073152).bind fun t844 => (if t844 = 4599075939470750516 then ((arith_Mul.f k 9218868437227405312 0).bind fun t845 => (if t845 = 9221120237041090560 then ((arith_Mul.f k 9223372036854775808 4617315517961601024).bind fun t846 => (if t846 = 9223372036854775808 then ((arith_Mul.f k 1 4602678819172646912).bind fun t847 => (if t847 = 0 then ((arith_Mul.f k 1 4604930618986332160).bind fun t848 => ((arith_Sum.f k ([] : List Int)).bind fun t849 => (if t849 = 0 then ((arith_Sum.f k (([9223372036854775808] : List Int))).bind fun t853 => (if t853 = 0 then ((arith_Sum.f k (([4845873199050653696, 4607182418800017408, 4607182418800017408] : List Int))).bind fun t857 => (if t839 = 0 then (if t843 = 13835058055282163712 then (if t848 = 1 then (some (t857 == 4845873199050653696)) else (none)) else (none)) else (none))) else (none))) else (none)))) else (none))) else (none))) else (none))) else (none)))) else (none))) else (none)) = some r := H
      have A12 := zA A120
      clear A120
      by_cases c13 : t841 = 9218868437227405312
      ·
       rw [if_pos c13] at H
       have c13b0 : (t841 == 9218868437227405312) = true := beq_iff_eq.mpr c13
       have c13b1 : (t841 != 9218868437227405312) = false := bne_eq_false_iff_eq.mpr c13
       clear c13
       replace H := Option.bind_eq_some_iff.mp H
       obtain ⟨t842, A140, H⟩ := H
       replace H : (if t842 = 9218868437227405312 then ((arith_Sub.f k 4613937818241073152 4617315517961601024).bind fun t843 => ((arith_Mul.f k 4591870180066957722 4613937818241073152).bind fun t844 => (if t844 = 4599075939470750516 then ((arith_Mul.f k 9218868437227405312 0).bind fun t845 => (if t845 = 9221120237041090560 then ((arith_Mul.f k 9223372036854775808 4617315517961601024).bind fun t846 => (if t846 = 9223372036854775808 then ((arith_Mul.f k 1 4602678819172646912).bind fun t847 => (if t847 = 0 then ((arith_Mul.f k 1 4604930618986332160).bind fun t848 => ((arith_Sum.f k ([] : List Int)).bind fun t849 => (if t849 = 0 then ((arith_Sum.f k (([9223372036854775808] : List Int))).bind fun t853 => (if t853 = 0 then ((arith_Sum.f k (([4845873199050653696, 4607182418800017408, 4607182418800017408] : List Int))).bind fun t857 => (if t839 = 0 then (if t843 = 13835058055282163712 then (if t848 = 1 then (some (t857 == 4845873199050653696)) else (none)) else (none)) else (none))) else (none))) else (none)))) else (none))) else (none))) else (none))) else (none)))) else (none)) = some r := H
       have A14 := zA A140
       clear A140
       by_cases c15 : t842 = 9218868437227405312
       ·
        rw [if_pos c15] at H
        have c15b0 : (t842 == 9218868437227405312) = true := beq_iff_eq.mpr c15
        have c15b1 : (t842 != 9218868437227405312) = false := bne_eq_false_iff_eq.mpr c15
        clear c15
        replace H := Option.bind_eq_some_iff.mp H
        obtain ⟨t843, A160, H⟩ := H
        replace H : ((arith_Mul.f k 4591870180066957722 4613937818241073152).bind fun t844 => (if t844 = 4599075939470750516 then ((arith_Mul.f k 9218868437227405312 0).bind fun t845 => (if t845 = 9221120237041090560 then ((arith_Mul.f k 9223372036854775808 4617315517961601024).bind fun t846 => (if t846 = 9223372036854775808 then ((arith_Mul.f k 1 4602678819172646912).bind fun t847 => (if t847 = 0 then ((arith_Mul.f k 1 4604930618986332160).bind fun t848 => ((arith_Sum.f k ([] : List Int)).bind fun t849 => (if t849 = 0 then ((arith_Sum.f k (([9223372036854775808] : List Int))).bind fun t853 => (if t853 = 0 then ((arith_Sum.f k (([4845873199050653696, 4607182418800017408, 4607182418800017408] : List Int))).bind fun t857 => (if t839 = 0 then (if t843 = 13835058055282163712 then (if t848 = 1 then (some (t857 == 4845873199050653696)) else (none)) else (none)) else (none))) else (none))) else (none)))) else (none))) else (none))) else (none))) else (none))) = some r := H
        have A16 := zA A160
        clear A160
        replace H := Option.bind_eq_some_iff.mp H
        obtain ⟨t844, A170, H⟩ := H
        replace H : (if t844 = 4599075939470750516 then ((arith_Mul.f k 9218868437227405312 0).bind fun t845 => (if t845 = 9221120237041090560 then ((arith_Mul.f k 9223372036854775808 4617315517961601024).bind fun t846 => (if t846 = 9223372036854775808 then ((arith_Mul.f k 1 4602678819172646912).bind fun t847 => (if t847 = 0 then ((arith_Mul.f k 1 4604930618986332160).bind fun t848 => ((arith_Sum.f k ([] : List Int)).bind fun t849 => (if t849 = 0 then ((arith_Sum.f k (([9223372036854775808] : List Int))).bind fun t853 => (if t853 = 0 then ((arith_Sum.f k (([4845873199050653696, 4607182418800017408, 4607182418800017408] : List Int))).bind fun t857 => (if t839 = 0 then (if t843 = 13835058055282163712 then (if t848 = 1 then (some (t857 == 4845873199050653696)) else (none)) else (none)) else (none))) else (none))) else (none)))) else (none))) else (none))) else (none))) else (none)) = some r := H
        have A17 := zA A170
        clear A170
        by_cases c18 : t844 = 4599075939470750516
        ·
         rw [if_pos c18] at H
         have c18b0 : (t844 == 4599075939470750516) = true := beq_iff_eq.mpr c18
         have c18b1 : (t844 != 4599075939470750516) = false := bne_eq_false_iff_eq.mpr c18
         clear c18
         replace H := Option.bind_eq_some_iff.mp H
         obtain ⟨t845, A190, H⟩ := H
         replace H : (if t845 = 9221120237041090560 then ((arith_Mul.f k 9223372036854775808 4617315517961601024).bind fun t846 => (if t846 = 9223372036854775808 then ((arith_Mul.f k 1 4602678819172646912).bind fun t847 => (if t847 = 0 then ((arith_Mul.f k 1 4604930618986332160).bind fun t848 => ((arith_Sum.f k ([] : List Int)).bind fun t849 => (if t849 = 0 then ((arith_Sum.f k (([9223372036854775808] : List Int))).bind fun t853 => (if t853 = 0 then ((arith_Sum.f k (([4845873199050653696, 4607182418800017408, 4607182418800017408] : List Int))).bind fun t857 => (if t839 = 0 then (if t843 = 13835058055282163712 then (if t848 = 1 then (some (t857 == 4845873199050653696)) else (none)) else (none)) else (none))) else (none))) else (none)))) else (none))) else (none))) else (none)) = some r := H
         have A19 := zA A190
         clear A190
         by_cases c20 : t845 = 9221120237041090560
         ·
          rw [if_pos c20] at H
          have c20b0 : (t845 == 9221120237041090560) = true := beq_iff_eq.mpr c20
          have c20b1 : (t845 != 9221120237041090560) = false := bne_eq_false_iff_eq.mpr c20
          clear c20
          replace H := Option.bind_eq_some_iff.mp H
          obtain ⟨t846, A210, H⟩ := H
          replace H : (if t846 = 9223372036854775808 then ((arith_Mul.f k 1 4602678819172646912).bind fun t847 => (if t847 = 0 then ((arith_Mul.f k 1 4604930618986332160).bind fun t848 => ((arith_Sum.f k ([] : List Int)).bind fun t849 => (if t849 = 0 then ((arith_Sum.f k (([9223372036854775808] : List Int))).bind fun t853 => (if t853 = 0 then ((arith_Sum.f k (([4845873199050653696, 4607182418800017408, 4607182418800017408] : List Int))).bind fun t857 => (if t839 = 0 then (if t843 = 13835058055282163712 then (if t848 = 1 then (some (t857 == 4845873199050653696)) else (none)) else (none)) else (none))) else (none))) else (none)))) else (none))) else (none)) = some r := H
          have A21 := zA A210
          clear A210
          by_cases c22 : t846 = 9223372036854775808
          ·
           rw [if_pos c22] at H
           have c22b0 : (t846 == 9223372036854775808) = true := beq_iff_eq.mpr c22
           have c22b1 : (t846 != 9223372036854775808) = false := bne_eq_false_iff_eq.mpr c22
           clear c22
           replace H := Option.bind_eq_some_iff.mp H
           obtain ⟨t847, A230, H⟩ := H
           replace H : (if t847 = 0 then ((arith_Mul.f k 1 4604930618986332160).bind fun t848 => ((arith_Sum.f k ([] : List Int)).bind fun t849 => (if t849 = 0 then ((arith_Sum.f k (([9223372036854775808] : List Int))).bind fun t853 => (if t853 = 0 then ((arith_Sum.f k (([4845873199050653696, 4607182418800017408, 4607182418800017408] : List Int))).bind fun t857 => (if t839 = 0 then (if t843 = 13835058055282163712 then (if t848 = 1 then (some (t857 == 4845873199050653696)) else (none)) else (none)) else (none))) else (none))) else (none)))) else (none)) = some r := H
           have A23 := zA A230
           clear A230
           by_cases c24 : t847 = 0
           ·
            rw [if_pos c24] at H
            have c24b0 : (t847 == 0) = true := beq_iff_eq.mpr c24
            have c24b1 : (t847 != 0) = false := bne_eq_false_iff_eq.mpr c24
            clear c24
            replace H := Option.bind_eq_some_iff.mp H
            obtain ⟨t848, A250, H⟩ := H
            replace H : ((arith_Sum.f k ([] : List Int)).bind fun t849 => (if t849 = 0 then ((arith_Sum.f k (([9223372036854775808] : List Int))).bind fun t853 => (if t853 = 0 then ((arith_Sum.f k (([4845873199050653696, 4607182418800017408, 4607182418800017408] : List Int))).bind fun t857 => (if t839 = 0 then (if t843 = 13835058055282163712 then (if t848 = 1 then (some (t857 == 4845873199050653696)) else (none)) else (none)) else (none))) else (none))) else (none))) = some r := H
            have A25 := zA A250
            clear A250
            replace H := Option.bind_eq_some_iff.mp H
            obtain ⟨t849, A260, H⟩ := H
            replace H : (if t849 = 0 then ((arith_Sum.f k (([9223372036854775808] : List Int))).bind fun t853 => (if t853 = 0 then ((arith_Sum.f k (([4845873199050653696, 4607182418800017408, 4607182418800017408] : List Int))).bind fun t857 => (if t839 = 0 then (if t843 = 13835058055282163712 then (if t848 = 1 then (some (t857 == 4845873199050653696)) else (none)) else (none)) else (none))) else (none))) else (none)) = some r := H
            have A26 := zA A260
            clear A260
            by_cases c27 : t849 = 0
            ·
             rw [if_pos c27] at H
             have c27b0 : (t849 == 0) = true := beq_iff_eq.mpr c27
             have c27b1 : (t849 != 0) = false := bne_eq_false_iff_eq.mpr c27
             clear c27
             obtain ⟨y850, hy850⟩ : ∃ y_ : List Int, y_ = (([9223372036854775808] : List Int)) := ⟨_, rfl⟩
             replace H : ((arith_Sum.f k y850).bind fun t853 => (if t853 = 0 then ((arith_Sum.f k (([4845873199050653696, 4607182418800017408, 4607182418800017408] : List Int))).bind fun t857 => (if t839 = 0 then (if t843 = 13835058055282163712 then (if t848 = 1 then (some (t857 == 4845873199050653696)) else (none)) else (none)) else (none))) else (none))) = some r := by first | (rw [hy850]; with_reducible exact H) | (have H2_ := (Option.bind_some _ _).symm.trans H; rw [hy850]; with_reducible exact H2_) | (have H2_ := (Option.bind_some _ _).symm.trans H; with_reducible exact H2_) | with_reducible exact H | (rw [hy850]; exact H) | exact H
             have Ny850 := zA hy850
             clear hy850
             replace H := Option.bind_eq_some_iff.mp H
             obtain ⟨t853, A280, H⟩ := H
             replace H : (if t853 = 0 then ((arith_Sum.f k (([4845873199050653696, 4607182418800017408, 4607182418800017408] : List Int))).bind fun t857 => (if t839 = 0 then (if t843 = 13835058055282163712 then (if t848 = 1 then (some (t857 == 4845873199050653696)) else (none)) else (none)) else (none))) else (none)) = some r := H
             have A28 := zA A280
             clear A280
             by_cases c29 : t853 = 0
             ·
              rw [if_pos c29] at H
              have c29b0 : (t853 == 0) = true := beq_iff_eq.mpr c29
              have c29b1 : (t853 != 0) = false := bne_eq_false_iff_eq.mpr c29
              clear c29
              obtain ⟨y854, hy854⟩ : ∃ y_ : List Int, y_ = (([4845873199050653696, 4607182418800017408, 4607182418800017408] : List Int)) := ⟨_, rfl⟩
              replace H : ((arith_Sum.f k y854).bind fun t857 => (if t839 = 0 then (if t843 = 13835058055282163712 then (if t848 = 1 then (some (t857 == 4845873199050653696)) else (none)) else (none)) else (none))) = some r := by first | (rw [hy854]; with_reducible exact H) | (have H2_ := (Option.bind_some _ _).symm.trans H; rw [hy854]; with_reducible exact H2_) | (have H2_ := (Option.bind_some _ _).symm.trans H; with_reducible exact H2_) | with_reducible exact H | (rw [hy854]; exact H) | exact H
              have Ny854 := zA hy854
              clear hy854
              replace H := Option.bind_eq_some_iff.mp H
              obtain ⟨t857, A300, H⟩ := H
              replace H : (if t839 = 0 then (if t843 = 13835058055282163712 then (if t848 = 1 then (some (t857 == 4845873199050653696)) else (none)) else (none)) else (none)) = some r := H
              have A30 := zA A300
              clear A300
              by_cases c31 : t839 = 0
              ·
               rw [if_pos c31] at H
               have c31b0 : (t839 == 0) = true := beq_iff_eq.mpr c31
               have c31b1 : (t839 != 0) = false := bne_eq_false_iff_eq.mpr c31
               clear c31
               by_cases c32 : t843 = 13835058055282163712
               ·
                rw [if_pos c32] at H
                have c32b0 : (t843 == 13835058055282163712) = true := beq_iff_eq.mpr c32
                have c32b1 : (t843 != 13835058055282163712) = false := bne_eq_false_iff_eq.mpr c32
                clear c32
                by_cases c33 : t848 = 1
                ·
                 rw [if_pos c33] at H
                 have c33b0 : (t848 == 1) = true := beq_iff_eq.mpr c33
                 have c33b1 : (t848 != 1) = false := bne_eq_false_iff_eq.mpr c33
                 clear c33
                 obtain rfl := Option.some.inj H
                 go_enter Try.func63, Try.ntmps63
                 go_wp2_with (first | ((with_reducible refine zoq (f := 64) rfl ?_); refine goesL_ (some 5) rfl rfl Try.func64 (by kernel_rfl) rfl #[.int .u64 4607182418800017408, .int .u64 4368491638549381120] rfl (by (try simp only [List.map_toArray, List.map_cons, List.map_nil]); first | done | rfl | (simp only [List.length_drop, List.length_take]; rfl)) ?_; (with_reducible refine (arith_Add.calls k 4607182418800017408 4368491638549381120 t835 _ A1.out).mono ?_); rintro e w34 ⟨rfl, hb⟩; refine ⟨_, rfl, ?_⟩; have n0_ := zA (zeq (by repeat (first | (with_reducible first | exact HB.out | apply zaq | apply zbq | apply zcq) | exact HB.out)) hb); clear HB; have HB := n0_; clear n0_; (try clear hb); (try clear hb2); (try clear hk); (try clear hi)) | (go_at_call 64; (with_reducible refine (arith_Add.calls k 4607182418800017409 4368491638549381120 t836 _ A3.out).mono ?_); rintro e w35 ⟨rfl, hb⟩; have n0_ := zA (zeq (by repeat (first | (with_reducible first | exact HB.out | apply zaq | apply zbq | apply zcq) | exact HB.out)) hb); clear HB; have HB := n0_; clear n0_; (try clear hb); (try clear hb2); (try clear hk); (try clear hi)) | (go_at_call 64; (with_reducible refine (arith_Add.calls k 4607182418800017408 13830554455654793216 t837 _ A5.out).mono ?_); rintro e w36 ⟨rfl, hb⟩; have n0_ := zA (zeq (by repeat (first | (with_reducible first | exact HB.out | apply zaq | apply zbq | apply zcq) | exact HB.out)) hb); clear HB; have HB := n0_; clear n0_; (try clear hb); (try clear hb2); (try clear hk); (try clear hi)) | (go_at_call 64; (with_reducible refine (arith_Add.calls k 9223372036854775808 9223372036854775808 t838 _ A7.out).mono ?_); rintro e w37 ⟨rfl, hb⟩; have n0_ := zA (zeq (by repeat (first | (with_reducible first | exact HB.out | apply zaq | apply zbq | apply zcq) | exact HB.out)) hb); clear HB; have HB := n0_; clear n0_; (try clear hb); (try clear hb2); (try clear hk); (try clear hi)) | (go_at_call 64; (with_reducible refine (arith_Add.calls k 9223372036854775808 0 t839 _ A9.out).mono ?_); rintro e w38 ⟨rfl, hb⟩; have n0_ := zA (zeq (by repeat (first | (with_reducible first | exact HB.out | apply zaq | apply zbq | apply zcq) | exact HB.out)) hb); clear HB; have HB := n0_; clear n0_; (try clear hb); (try clear hb2); (try clear hk); (try clear hi)) | ((with_reducible refine zoq (f := 64) rfl ?_); refine goesL_ (some 23) rfl rfl Try.func64 (by kernel_rfl) rfl #[.int .u64 9218868437227405312, .int .u64 18442240474082181120] rfl (by (try simp only [List.map_toArray, List.map_cons, List.map_nil]); first | done | rfl | (simp only [List.length_drop, List.length_take]; rfl)) ?_; (with_reducible refine (arith_Add.calls k 9218868437227405312 18442240474082181120 t840 _ A10.out).mono ?_); rintro e w39 ⟨rfl, hb⟩; refine ⟨_, rfl, ?_⟩; have n0_ := zA (zeq (by repeat (first | (with_reducible first | exact HB.out | apply zaq | apply zbq | apply zcq) | exact HB.out)) hb); clear HB; have HB := n0_; clear n0_; (try clear hb); (try clear hb2); (try clear hk); (try clear hi)) | (go_at_call 64; (with_reducible refine (arith_Add.calls k 9218868437227405312 4617315517961601024 t841 _ A12.out).mono ?_); rintro e w40 ⟨rfl, hb⟩; have n0_ := zA (zeq (by repeat (first | (with_reducible first | exact HB.out | apply zaq | apply zbq | apply zcq) | exact HB.out)) hb); clear HB; have HB := n0_; clear n0_; (try clear hb); (try clear hb2); (try clear hk); (try clear hi)) | (go_at_call 64; (with_reducible refine (arith_Add.calls k 9218868437227405311 9218868437227405311 t842 _ A14.out).mono ?_); rintro e w41 ⟨rfl, hb⟩; have n0_ := zA (zeq (by repeat (first | (with_reducible first | exact HB.out | apply zaq | apply zbq | apply zcq) | exact HB.out)) hb); clear HB; have HB := n0_; clear n0_; (try clear hb); (try clear hb2); (try clear hk); (try clear hi)) | (go_at_call 66; (with_reducible refine (arith_Sub.calls k 4613937818241073152 4617315517961601024 t843 _ A16.out).mono ?_); rintro e w42 ⟨rfl, hb⟩; have n0_ := zA (zeq (by repeat (first | (with_reducible first | exact HB.out | apply zaq | apply zbq | apply zcq) | exact HB.out)) hb); clear HB; have HB := n0_; clear n0_; (try clear hb); (try clear hb2); (try clear hk); (try clear hi)) | ((with_reducible refine zoq (f := 68) rfl ?_); refine goesL_ (some 37) rfl rfl Try.func68 (by kernel_rfl) rfl #[.int .u64 4591870180066957722, .int .u64 4613937818241073152] rfl (by (try simp only [List.map_toArray, List.map_cons, List.map_nil]); first | done | rfl | (simp only [List.length_drop, List.length_take]; rfl)) ?_; (with_reducible refine (arith_Mul.calls k 4591870180066957722 4613937818241073152 t844 _ A17.out).mono ?_); rintro e w43 ⟨rfl, hb⟩; refine ⟨_, rfl, ?_⟩; have n0_ := zA (zeq (by repeat (first | (with_reducible first | exact HB.out | apply zaq | apply zbq | apply zcq) | exact HB.out)) hb); clear HB; have HB := n0_; clear n0_; (try clear hb); (try clear hb2); (try clear hk); (try clear hi)) | (go_at_call 68; (with_reducible refine (arith_Mul.calls k 9218868437227405312 0 t845 _ A19.out).mono ?_); rintro e w44 ⟨rfl, hb⟩; have n0_ := zA (zeq (by repeat (first | (with_reducible first | exact HB.out | apply zaq | apply zbq | apply zcq) | exact HB.out)) hb); clear HB; have HB := n0_; clear n0_; (try clear hb); (try clear hb2); (try clear hk); (try clear hi)) | (go_at_call 68; (with_reducible refine (arith_Mul.calls k 9223372036854775808 4617315517961601024 t846 _ A21.out).mono ?_); rintro e w45 ⟨rfl, hb⟩; have n0_ := zA (zeq (by repeat (first | (with_reducible first | exact HB.out | apply zaq | apply zbq | apply zcq) | exact HB.out)) hb); clear HB; have HB := n0_; clear n0_; (try clear hb); (try clear hb2); (try clear hk); (try clear hi)) | (go_at_call 68; (with_reducible refine (arith_Mul.calls k 1 4602678819172646912 t847 _ A23.out).mono ?_); rintro e w46 ⟨rfl, hb⟩; have n0_ := zA (zeq (by repeat (first | (with_reducible first | exact HB.out | apply zaq | apply zbq | apply zcq) | exact HB.out)) hb); clear HB; have HB := n0_; clear n0_; (try clear hb); (try clear hb2); (try clear hk); (try clear hi)) | (go_at_call 68; (with_reducible refine (arith_Mul.calls k 1 4604930618986332160 t848 _ A25.out).mono ?_); rintro e w47 ⟨rfl, hb⟩; have n0_ := zA (zeq (by repeat (first | (with_reducible first | exact HB.out | apply zaq | apply zbq | apply zcq) | exact HB.out)) hb); clear HB; have HB := n0_; clear n0_; (try clear hb); (try clear hb2); (try clear hk); (try clear hi)) | ((with_reducible refine zoq (f := 70) rfl ?_); refine goesL_ (some 55) rfl rfl Try.func70 (by kernel_rfl) rfl #[.slice none 0 0] rfl (by (try simp only [List.map_toArray, List.map_cons, List.map_nil]); first | done | rfl | (simp only [List.length_drop, List.length_take]; rfl)) ?_; (refine (arith_Sum.calls k _ _ ([] : List Int) t849 _ ?side1 ?side2 A26.out).mono ?_); (case side1 => exact Kd.C_nil _ _); (case side2 => exact Nat.le_refl _); rintro e w48 ⟨rfl, hb⟩; refine ⟨_, rfl, ?_⟩; have n0_ := zA (zeq (by repeat (first | (with_reducible first | exact HB.out | apply zaq | apply zbq | apply zcq) | exact HB.out)) hb); clear HB; have HB := n0_; clear n0_; (try clear hb); (try clear hb2); (try clear hk); (try clear hi)) | ((with_reducible refine zpq (N := 58) rfl ?_); (try (refine gate_guard (by rfl) ?_; dsimp only)); refine Kd.R_lit (Kd.int .u64) _ 22 ?hg (N := 58) ?hd (xs := ([9223372036854775808] : List Int)) (inner := [.int .u64 9223372036854775808]) (ok := fun _ => True) (okp := fun _ => True) ?hr ?hp (fun _ hk => hk) trivial (Below.refl _ _) (Nat.le_refl _) (by simp) ?_; (case hd => rfl); (case hg => rfl); (case hr => first | (go_simp; done) | (go_simp; rfl)); (case hp => exact (Reps.one (show Kd.M (Kd.int .u64) _ _ _ 9223372036854775808 [.int .u64 9223372036854775808] from rfl) (Reps.none _ _))); intro v851 w49 ho50 hb hg_ hnew_; clear hg_ hnew_; (first | rw [← Ny850.out] at ho50 | (simp only [Int.reduceToNat] at ho50; rw [← Ny850.out] at ho50)); have n0_ := zA (Kd.R_lower ho50 (zfq (by repeat (first | (with_reducible first | exact HB.out | apply zaq | apply zbq | apply zcq) | exact HB.out)))); have n1_ := zA (zeq (by repeat (first | (with_reducible first | exact HB.out | apply zaq | apply zbq | apply zcq) | exact HB.out)) hb); clear HB; have HO852 := n0_; have HB := n1_; clear n0_ n1_; clear hb ho50; obtain ⟨Ao51, co51, eo51⟩ := Kd.R_slice HO852.out; subst eo51) | (go_at_call 70; (with_reducible refine (arith_Sum.calls k _ _ y850 t853 _ ?side1 ?side2 A28.out).mono ?_); (case side1 => repeat (first | exact (Kd.R_reads' HO852.out).2.2 | (with_reducible refine Kd.C_alloc ?_ _) | (with_reducible refine Kd.C_drewN ?_ _) | (with_reducible refine Kd.C_drew ?_))); (case side2 => exact (Kd.R_reads' HO852.out).2.1); rintro e w52 ⟨rfl, hb⟩; have n0_ := zA (Kd.R_below (by (with_reducible repeat (first | apply Kd.R_alloc | apply Kd.R_drewN | apply Kd.R_drew)); exact HO852.out) hb); have n1_ := zA (zeq (by repeat (first | (with_reducible first | exact HB.out | apply zaq | apply zbq | apply zcq) | exact HB.out)) hb); clear HO852; clear HB; have HO852 := n0_; have HB := n1_; clear n0_ n1_; (try clear hb); (try clear hb2); (try clear hk); (try clear hi)) | ((with_reducible refine zpq (N := 63) rfl ?_); (try (refine gate_guard (by rfl) ?_; dsimp only)); refine Kd.R_lit (Kd.int .u64) _ 22 ?hg (N := 63) ?hd (xs := ([4845873199050653696, 4607182418800017408, 4607182418800017408] : List Int)) (inner := [.int .u64 4845873199050653696, .int .u64 4607182418800017408, .int .u64 4607182418800017408]) (ok := fun _ => True) (okp := fun _ => True) ?hr ?hp (fun _ hk => hk) trivial (Below.refl _ _) (Nat.le_refl _) (by simp) ?_; (case hd => rfl); (case hg => rfl); (case hr => first | (go_simp; done) | (go_simp; rfl)); (case hp => exact (Reps.one (show Kd.M (Kd.int .u64) _ _ _ 4845873199050653696 [.int .u64 4845873199050653696] from rfl) (Reps.one (show Kd.M (Kd.int .u64) _ _ _ 4607182418800017408 [.int .u64 4607182418800017408] from rfl) (Reps.one (show Kd.M (Kd.int .u64) _ _ _ 4607182418800017408 [.int .u64 4607182418800017408] from rfl) (Reps.none _ _))))); intro v855 w53 ho54 hb hg_ hnew_; clear hg_ hnew_; (first | rw [← Ny854.out] at ho54 | (simp only [Int.reduceToNat] at ho54; rw [← Ny854.out] at ho54)); have n0_ := zA (Kd.R_elder' (by (with_reducible repeat (first | apply Kd.R_alloc | apply Kd.R_drewN | apply Kd.R_drew)); exact HO852.out) (Kd.R_base ho54) hb); have n1_ := zA (Kd.R_lower (Kd.R_new' ho54 (Kd.R_lt (by (with_reducible repeat (first | apply Kd.R_alloc | apply Kd.R_drewN | apply Kd.R_drew)); exact HO852.out))) (zfq (by repeat (first | (with_reducible first | exact HB.out | apply zaq | apply zbq | apply zcq) | exact HB.out)))); have n2_ := zA (zeq (by repeat (first | (with_reducible first | exact HB.out | apply zaq | apply zbq | apply zcq) | exact HB.out)) hb); clear HO852; clear HB; have HO852 := n0_; have HO856 := n1_; have HB := n2_; clear n0_ n1_ n2_; clear hb ho54; obtain ⟨Ao55, co55, eo55⟩ := Kd.R_slice HO856.out; subst eo55) | (go_at_call 70; (with_reducible refine (arith_Sum.calls k _ _ y854 t857 _ ?side1 ?side2 A30.out).mono ?_); (case side1 => repeat (first | exact (Kd.R_reads' HO856.out).2.2 | (with_reducible refine Kd.C_alloc ?_ _) | (with_reducible refine Kd.C_drewN ?_ _) | (with_reducible refine Kd.C_drew ?_))); (case side2 => exact (Kd.R_reads' HO856.out).2.1); rintro e w56 ⟨rfl, hb⟩; have n0_ := zA (Kd.R_below (by (with_reducible repeat (first | apply Kd.R_alloc | apply Kd.R_drewN | apply Kd.R_drew)); exact HO852.out) hb); have n1_ := zA (Kd.R_below (by (with_reducible repeat (first | apply Kd.R_alloc | apply Kd.R_drewN | apply Kd.R_drew)); exact HO856.out) hb); have n2_ := zA (zeq (by repeat (first | (with_reducible first | exact HB.out | apply zaq | apply zbq | apply zcq) | exact HB.out)) hb); clear HO852; clear HO856; clear HB; have HO852 := n0_; have HO856 := n1_; have HB := n2_; clear n0_ n1_ n2_; (try clear hb); (try clear hb2); (try clear hk); (try clear hi)))
                 go_ret
                 exact ⟨by first | rfl | (simp [errW_none, errW_some] <;> rfl) | (simp [*, errW_none, errW_some] <;> rfl), by repeat (first | (with_reducible first | exact HB.out | apply zaq | apply zbq | apply zcq) | exact HB.out)⟩
                ·
                 rw [if_neg c33] at H
                 exact absurd H (by simp)
               ·
                rw [if_neg c32] at H
                exact absurd H (by simp)
              ·
               rw [if_neg c31] at H
               exact absurd H (by simp)
             ·
              rw [if_neg c29] at H
              exact absurd H (by simp)
            ·
             rw [if_neg c27] at H
             exact absurd H (by simp)
           ·
            rw [if_neg c24] at H
            exact absurd H (by simp)
          ·
           rw [if_neg c22] at H
           exact absurd H (by simp)
         ·
          rw [if_neg c20] at H
          exact absurd H (by simp)
        ·
         rw [if_neg c18] at H
         exact absurd H (by simp)
       ·
        rw [if_neg c15] at H
        exact absurd H (by simp)
      ·
       rw [if_neg c13] at H
       exact absurd H (by simp)
     ·
      rw [if_neg c11] at H
      exact absurd H (by simp)
    ·
     rw [if_neg c8] at H
     exact absurd H (by simp)
   ·
    rw [if_neg c6] at H
    exact absurd H (by simp)
  ·
   rw [if_neg c4] at H
   exact absurd H (by simp)
 ·
  rw [if_neg c2] at H
  exact absurd H (by simp)

end Go.Proofs.Ytbejjlecpcphoaa.P
