-- Written by a program of this session's (a turned print), not by hand.
import Derived.Test.YtbejjlecpcphoaaPx0
import Derived.Test.YtbejjlecpcphoaaPx8
import Derived.Test.YtbejjlecpcphoaaPx9
namespace Go.Proofs.Ytbejjlecpcphoaa.P
open Go.RowKit Go.Proofs.YtbejjlecpcphoaaW.PrintWords Go.Proofs.YtbejjlecpcphoaaW.PrintLast Go.Proofs.YtbejjlecpcphoaaW.PrintMore
attribute [local go_sem] max2_int min2_int max_two min_two max_three min_three max_four min_four   -- for this text's walks alone
set_option linter.unusedVariables false
set_option linter.unusedSimpArgs false

/-! ### tabardlaw3_shown: function 19 -/
def tabardlaw3_shown.f (k : Nat)  : Option (Bool) := (float_Kind.f k 0).bind fun t135 => (if t135 = 0 then ((float_Kind.f k 1).bind fun t136 => (if t136 = 1 then ((float_Kind.f k 4607182418800017408).bind fun t137 => (if t137 = 2 then ((float_Kind.f k 18442240474082181120).bind fun t138 => (if t138 = 3 then ((float_Kind.f k 9218868437227405313).bind fun t139 => ((float_Split.f k 13832806255468478464).bind fun bt140 => ((float_Split.f k 5).bind fun bt143 => (if bt140.1 = true then (if bt140.2.1 = 6755399441055744 then (if bt140.2.2 = (-52) then (if bt143.1 = true then (none) else (if bt143.2.1 = 5 then ((float_Join.f k false 0 1 0 false).bind fun t146 => (if t146 = 4607182418800017408 then ((float_Join.f k true 0 3 (-1) false).bind fun t147 => ((float_Join.f k false 0 1 (-1075) false).bind fun t148 => (if t148 = 0 then ((float_Join.f k false 0 1 (-1075) true).bind fun t149 => ((float_Join.f k false 0 9007199254740993 0 false).bind fun t150 => (if t150 = 4845873199050653696 then ((float_Join.f k false 0 9007199254740995 0 false).bind fun t151 => (if t151 = 4845873199050653698 then ((float_Join.f k false 0 9007199254740993 0 true).bind fun t152 => ((float_Join.f k false 0 1 1024 false).bind fun t153 => ((float_Next.f k 0).bind fun t154 => (if t154 = 1 then ((float_Next.f k 9223372036854775808).bind fun t155 => (if t155 = 1 then ((float_Next.f k 9218868437227405311).bind fun t156 => (if t156 = 9218868437227405312 then ((float_Next.f k 18442240474082181120).bind fun t157 => (if t157 = 18442240474082181119 then ((float_Next.f k 9223372036854775809).bind fun t158 => ((float_Prev.f k 0).bind fun t159 => (if t159 = 9223372036854775809 then ((float_Neg.f k 9218868437227405313).bind fun t160 => (if t139 = 4 then (if bt143.2.2 = (-1074) then (if t147 = 13832806255468478464 then (if t149 = 1 then (if t152 = 4845873199050653697 then (if t153 = 9218868437227405312 then (if t158 = 9223372036854775808 then (some (t160 == 9221120237041090560)) else (none)) else (none)) else (none)) else (none)) else (none)) else (none)) else (none))) else (none)))) else (none))) else (none))) else (none))) else (none))))) else (none))) else (none)))) else (none)))) else (none))) else (none))) else (none)) else (none)) else (none))))) else (none))) else (none))) else (none))) else (none))
theorem tabardlaw3_shown.mono : ∀ k, LeO (tabardlaw3_shown.f k ) (tabardlaw3_shown.f (k + 1) ) := by
 intro  k
 unfold tabardlaw3_shown.f
 repeat' first
   | (with_reducible exact float_Join.mono _ _ _ _ _ _)
   | (with_reducible exact float_Kind.mono _ _)
   | (with_reducible exact float_Neg.mono _ _)
   | (with_reducible exact float_Next.mono _ _)
   | (with_reducible exact float_Prev.mono _ _)
   | (with_reducible exact float_Split.mono _ _)
   | (with_reducible exact LeO.refl _)
   | (with_reducible exact LeO.none _)
   | (with_reducible refine LeO.ite ?_ ?_)
   | (with_reducible refine LeO.bind ?_ (fun _ => ?_))
   | exact float_Join.mono _ _ _ _ _ _
   | exact float_Kind.mono _ _
   | exact float_Neg.mono _ _
   | exact float_Next.mono _ _
   | exact float_Prev.mono _ _
   | exact float_Split.mono _ _
   | exact LeO.none _
   | refine LeO.ite ?_ ?_
   | refine LeO.bind ?_ (fun _ => ?_)
set_option maxHeartbeats 8000000 in
set_option maxRecDepth 100000 in
theorem tabardlaw3_shown.calls (k : Nat)  (r : Bool) (w : World) (h : tabardlaw3_shown.f k  = some r) :
  Calls Try.prog 19 #[] w fun e w' => e = .returned (.bool r) ∧ Below w.heap.size w w' := by
 have hu24 := Try.underlying24
 have HB := zA (Below.refl w.heap.size w)
 have H : ((float_Kind.f k 0).bind fun t135 => (if t135 = 0 then ((float_Kind.f k 1).bind fun t136 => (if t136 = 1 then ((float_Kind.f k 4607182418800017408).bind fun t137 => (if t137 = 2 then ((float_Kind.f k 18442240474082181120).bind fun t138 => (if t138 = 3 then ((float_Kind.f k 9218868437227405313).bind fun t139 => ((float_Split.f k 13832806255468478464).bind fun bt140 => ((float_Split.f k 5).bind fun bt143 => (if bt140.1 = true then (if bt140.2.1 = 6755399441055744 then (if bt140.2.2 = (-52) then (if bt143.1 = true then (none) else (if bt143.2.1 = 5 then ((float_Join.f k false 0 1 0 false).bind fun t146 => (if t146 = 4607182418800017408 then ((float_Join.f k true 0 3 (-1) false).bind fun t147 => ((float_Join.f k false 0 1 (-1075) false).bind fun t148 => (if t148 = 0 then ((float_Join.f k false 0 1 (-1075) true).bind fun t149 => ((float_Join.f k false 0 9007199254740993 0 false).bind fun t150 => (if t150 = 4845873199050653696 then ((float_Join.f k false 0 9007199254740995 0 false).bind fun t151 => (if t151 = 4845873199050653698 then ((float_Join.f k false 0 9007199254740993 0 true).bind fun t152 => ((float_Join.f k false 0 1 1024 false).bind fun t153 => ((float_Next.f k 0).bind fun t154 => (if t154 = 1 then ((float_Next.f k 9223372036854775808).bind fun t155 => (if t155 = 1 then ((float_Next.f k 9218868437227405311).bind fun t156 => (if t156 = 9218868437227405312 then ((float_Next.f k 18442240474082181120).bind fun t157 => (if t157 = 18442240474082181119 then ((float_Next.f k 9223372036854775809).bind fun t158 => ((float_Prev.f k 0).bind fun t159 => (if t159 = 9223372036854775809 then ((float_Neg.f k 9218868437227405313).bind fun t160 => (if t139 = 4 then (if bt143.2.2 = (-1074) then (if t147 = 13832806255468478464 then (if t149 = 1 then (if t152 = 4845873199050653697 then (if t153 = 9218868437227405312 then (if t158 = 9223372036854775808 then (some (t160 == 9221120237041090560)) else (none)) else (none)) else (none)) else (none)) else (none)) else (none)) else (none))) else (none)))) else (none))) else (none))) else (none))) else (none))))) else (none))) else (none)))) else (none)))) else (none))) else (none))) else (none)) else (none)) else (none))))) else (none))) else (none))) else (none))) else (none))) = some r := h
 clear h
 replace H := Option.bind_eq_some_iff.mp H
 obtain ⟨t135, A10, H⟩ := H
 replace H : (if t135 = 0 then ((float_Kind.f k 1).bind fun t136 => (if t136 = 1 then ((float_Kind.f k 4607182418800017408).bind fun t137 => (if t137 = 2 then ((float_Kind.f k 18442240474082181120).bind fun t138 => (if t138 = 3 then ((float_Kind.f k 9218868437227405313).bind fun t139 => ((float_Split.f k 13832806255468478464).bind fun bt140 => ((float_Split.f k 5).bind fun bt143 => (if bt140.1 = true then (if bt140.2.1 = 6755399441055744 then (if bt140.2.2 = (-52) then (if bt143.1 = true then (none) else (if bt143.2.1 = 5 then ((float_Join.f k false 0 1 0 false).bind fun t146 => (if t146 = 4607182418800017408 then ((float_Join.f k true 0 3 (-1) false).bind fun t147 => ((float_Join.f k false 0 1 (-1075) false).bind fun t148 => (if t148 = 0 then ((float_Join.f k false 0 1 (-1075) true).bind fun t149 => ((float_Join.f k false 0 9007199254740993 0 false).bind fun t150 => (if t150 = 4845873199050653696 then ((float_Join.f k false 0 9007199254740995 0 false).bind fun t151 => (if t151 = 4845873199050653698 then ((float_Join.f k false 0 9007199254740993 0 true).bind fun t152 => ((float_Join.f k false 0 1 1024 false).bind fun t153 => ((float_Next.f k 0).bind fun t154 => (if t154 = 1 then ((float_Next.f k 9223372036854775808).bind fun t155 => (if t155 = 1 then ((float_Next.f k 9218868437227405311).bind fun t156 => (if t156 = 9218868437227405312 then ((float_Next.f k 18442240474082181120).bind fun t157 => (if t157 = 18442240474082181119 then ((float_Next.f k 9223372036854775809).bind fun t158 => ((float_Prev.f k 0).bind fun t159 => (if t159 = 9223372036854775809 then ((float_Neg.f k 9218868437227405313).bind fun t160 => (if t139 = 4 then (if bt143.2.2 = (-1074) then (if t147 = 13832806255468478464 then (if t149 = 1 then (if t152 = 4845873199050653697 then (if t153 = 9218868437227405312 then (if t158 = 9223372036854775808 then (some (t160 == 9221120237041090560)) else (none)) else (none)) else (none)) else (none)) else (none)) else (none)) else (none))) else (none)))) else (none))) else (none))) else (none))) else (none))))) else (none))) else (none)))) else (none)))) else (none))) else (none))) else (none)) else (none)) else (none))))) else (none))) else (none))) else (none))) else (none)) = some r := H
 have A1 := zA A10
 clear A10
 by_cases c2 : t135 = 0
 ·
  rw [if_pos c2] at H
  have c2b0 : (t135 == 0) = true := beq_iff_eq.mpr c2
  have c2b1 : (t135 != 0) = false := bne_eq_false_iff_eq.mpr c2
  clear c2
  replace H := Option.bind_eq_some_iff.mp H
  obtain ⟨t136, A30, H⟩ := H
  replace H : (if t136 = 1 then ((float_Kind.f k 4607182418800017408).bind fun t137 => (if t137 = 2 then ((float_Kind.f k 18442240474082181120).bind fun t138 => (if t138 = 3 then ((float_Kind.f k 9218868437227405313).bind fun t139 => ((float_Split.f k 13832806255468478464).bind fun bt140 => ((float_Split.f k 5).bind fun bt143 => (if bt140.1 = true then (if bt140.2.1 = 6755399441055744 then (if bt140.2.2 = (-52) then (if bt143.1 = true then (none) else (if bt143.2.1 = 5 then ((float_Join.f k false 0 1 0 false).bind fun t146 => (if t146 = 4607182418800017408 then ((float_Join.f k true 0 3 (-1) false).bind fun t147 => ((float_Join.f k false 0 1 (-1075) false).bind fun t148 => (if t148 = 0 then ((float_Join.f k false 0 1 (-1075) true).bind fun t149 => ((float_Join.f k false 0 9007199254740993 0 false).bind fun t150 => (if t150 = 4845873199050653696 then ((float_Join.f k false 0 9007199254740995 0 false).bind fun t151 => (if t151 = 4845873199050653698 then ((float_Join.f k false 0 9007199254740993 0 true).bind fun t152 => ((float_Join.f k false 0 1 1024 false).bind fun t153 => ((float_Next.f k 0).bind fun t154 => (if t154 = 1 then ((float_Next.f k 9223372036854775808).bind fun t155 => (if t155 = 1 then ((float_Next.f k 9218868437227405311).bind fun t156 => (if t156 = 9218868437227405312 then ((float_Next.f k 18442240474082181120).bind fun t157 => (if t157 = 18442240474082181119 then ((float_Next.f k 9223372036854775809).bind fun t158 => ((float_Prev.f k 0).bind fun t159 => (if t159 = 9223372036854775809 then ((float_Neg.f k 9218868437227405313).bind fun t160 => (if t139 = 4 then (if bt143.2.2 = (-1074) then (if t147 = 13832806255468478464 then (if t149 = 1 then (if t152 = 4845873199050653697 then (if t153 = 9218868437227405312 then (if t158 = 9223372036854775808 then (some (t160 == 9221120237041090560)) else (none)) else (none)) else (none)) else (none)) else (none)) else (none)) else (none))) else (none)))) else (none))) else (none))) else (none))) else (none))))) else (none))) else (none)))) else (none)))) else (none))) else (none))) else (none)) else (none)) else (none))))) else (none))) else (none))) else (none)) = some r := H
  have A3 := zA A30
  clear A30
  by_cases c4 : t136 = 1
  ·
   rw [if_pos c4] at H
   have c4b0 : (t136 == 1) = true := beq_iff_eq.mpr c4
   have c4b1 : (t136 != 1) = false := bne_eq_false_iff_eq.mpr c4
   clear c4
   replace H := Option.bind_eq_some_iff.mp H
   obtain ⟨t137, A50, H⟩ := H
   replace H : (if t137 = 2 then ((float_Kind.f k 18442240474082181120).bind fun t138 => (if t138 = 3 then ((float_Kind.f k 9218868437227405313).bind fun t139 => ((float_Split.f k 13832806255468478464).bind fun bt140 => ((float_Split.f k 5).bind fun bt143 => (if bt140.1 = true then (if bt140.2.1 = 6755399441055744 then (if bt140.2.2 = (-52) then (if bt143.1 = true then (none) else (if bt143.2.1 = 5 then ((float_Join.f k false 0 1 0 false).bind fun t146 => (if t146 = 4607182418800017408 then ((float_Join.f k true 0 3 (-1) false).bind fun t147 => ((float_Join.f k false 0 1 (-1075) false).bind fun t148 => (if t148 = 0 then ((float_Join.f k false 0 1 (-1075) true).bind fun t149 => ((float_Join.f k false 0 9007199254740993 0 false).bind fun t150 => (if t150 = 4845873199050653696 then ((float_Join.f k false 0 9007199254740995 0 false).bind fun t151 => (if t151 = 4845873199050653698 then ((float_Join.f k false 0 9007199254740993 0 true).bind fun t152 => ((float_Join.f k false 0 1 1024 false).bind fun t153 => ((float_Next.f k 0).bind fun t154 => (if t154 = 1 then ((float_Next.f k 9223372036854775808).bind fun t155 => (if t155 = 1 then ((float_Next.f k 9218868437227405311).bind fun t156 => (if t156 = 9218868437227405312 then ((float_Next.f k 18442240474082181120).bind fun t157 => (if t157 = 18442240474082181119 then ((float_Next.f k 9223372036854775809).bind fun t158 => ((float_Prev.f k 0).bind fun t159 => (if t159 = 9223372036854775809 then ((float_Neg.f k 9218868437227405313).bind fun t160 => (if t139 = 4 then (if bt143.2.2 = (-1074) then (if t147 = 13832806255468478464 then (if t149 = 1 then (if t152 = 4845873199050653697 then (if t153 = 9218868437227405312 then (if t158 = 9223372036854775808 then (some (t160 == 9221120237041090560)) else (none)) else (none)) else (none)) else (none)) else (none)) else (none)) else (none))) else (none)))) else (none))) else (none))) else (none))) else (none))))) else (none))) else (none)))) else (none)))) else (none))) else (none))) else (none)) else (none)) else (none))))) else (none))) else (none)) = some r := H
   have A5 := zA A50
   clear A50
   by_cases c6 : t137 = 2
   ·
    rw [if_pos c6] at H
    have c6b0 : (t137 == 2) = true := beq_iff_eq.mpr c6
    have c6b1 : (t137 != 2) = false := bne_eq_false_iff_eq.mpr c6
    clear c6
    replace H := Option.bind_eq_some_iff.mp H
    obtain ⟨t138, A70, H⟩ := H
    replace H : (if t138 = 3 then ((float_Kind.f k 9218868437227405313).bind fun t139 => ((float_Split.f k 13832806255468478464).bind fun bt140 => ((float_Split.f k 5).bind fun bt143 => (if bt140.1 = true then (if bt140.2.1 = 6755399441055744 then (if bt140.2.2 = (-52) then (if bt143.1 = true then (none) else (if bt143.2.1 = 5 then ((float_Join.f k false 0 1 0 false).bind fun t146 => (if t146 = 4607182418800017408 then ((float_Join.f k true 0 3 (-1) false).bind fun t147 => ((float_Join.f k false 0 1 (-1075) false).bind fun t148 => (if t148 = 0 then ((float_Join.f k false 0 1 (-1075) true).bind fun t149 => ((float_Join.f k false 0 9007199254740993 0 false).bind fun t150 => (if t150 = 4845873199050653696 then ((float_Join.f k false 0 9007199254740995 0 false).bind fun t151 => (if t151 = 4845873199050653698 then ((float_Join.f k false 0 9007199254740993 0 true).bind fun t152 => ((float_Join.f k false 0 1 1024 false).bind fun t153 => ((float_Next.f k 0).bind fun t154 => (if t154 = 1 then ((float_Next.f k 9223372036854775808).bind fun t155 => (if t155 = 1 then ((float_Next.f k 9218868437227405311).bind fun t156 => (if t156 = 9218868437227405312 then ((float_Next.f k 18442240474082181120).bind fun t157 => (if t157 = 18442240474082181119 then ((float_Next.f k 9223372036854775809).bind fun t158 => ((float_Prev.f k 0).bind fun t159 => (if t159 = 9223372036854775809 then ((float_Neg.f k 9218868437227405313).bind fun t160 => (if t139 = 4 then (if bt143.2.2 = (-1074) then (if t147 = 13832806255468478464 then (if t149 = 1 then (if t152 = 4845873199050653697 then (if t153 = 9218868437227405312 then (if t158 = 9223372036854775808 then (some (t160 == 9221120237041090560)) else (none)) else (none)) else (none)) else (none)) else (none)) else (none)) else (none))) else (none)))) else (none))) else (none))) else (none))) else (none))))) else (none))) else (none)))) else (none)))) else (none))) else (none))) else (none)) else (none)) else (none))))) else (none)) = some r := H
    have A7 := zA A70
    clear A70
    by_cases c8 : t138 = 3
    ·
     rw [if_pos c8] at H
     have c8b0 : (t138 == 3) = true := beq_iff_eq.mpr c8
     have c8b1 : (t138 != 3) = false := bne_eq_false_iff_eq.mpr c8
     clear c8
     replace H := Option.bind_eq_some_iff.mp H
     obtain ⟨t139, A90, H⟩ := H
     replace H : ((float_Split.f k 13832806255468478464).bind fun bt140 => ((float_Split.f k 5).bind fun bt143 => (if bt140.1 = true then (if bt140.2.1 = 6755399441055744 then (if bt140.2.2 = (-52) then (if bt143.1 = true then (none) else (if bt143.2.1 = 5 then ((float_Join.f k false 0 1 0 false).bind fun t146 => (if t146 = 4607182418800017408 then ((float_Join.f k true 0 3 (-1) false).bind fun t147 => ((float_Join.f k false 0 1 (-1075) false).bind fun t148 => (if t148 = 0 then ((float_Join.f k false 0 1 (-1075) true).bind fun t149 => ((float_Join.f k false 0 9007199254740993 0 false).bind fun t150 => (if t150 = 4845873199050653696 then ((float_Join.f k false 0 9007199254740995 0 false).bind fun t151 => (if t151 = 4845873199050653698 then ((float_Join.f k false 0 9007199254740993 0 true).bind fun t152 => ((float_Join.f k false 0 1 1024 false).bind fun t153 => ((float_Next.f k 0).bind fun t154 => (if t154 = 1 then ((float_Next.f k 9223372036854775808).bind fun t155 => (if t155 = 1 then ((float_Next.f k 9218868437227405311).bind fun t156 => (if t156 = 9218868437227405312 then ((float_Next.f k 18442240474082181120).bind fun t157 => (if t157 = 18442240474082181119 then ((float_Next.f k 9223372036854775809).bind fun t158 => ((float_Prev.f k 0).bind fun t159 => (if t159 = 9223372036854775809 then ((float_Neg.f k 9218868437227405313).bind fun t160 => (if t139 = 4 then (if bt143.2.2 = (-1074) then (if t147 = 13832806255468478464 then (if t149 = 1 then (if t152 = 4845873199050653697 then (if t153 = 9218868437227405312 then (if t158 = 9223372036854775808 then (some (t160 == 9221120237041090560)) else (none)) else (none)) else (none)) else (none)) else (none)) else (none)) else (none))) else (none)))) else (none))) else (none))) else (none))) else (none))))) else (none))) else (none)))) else (none)))) else (none))) else (none))) else (none)) else (none)) else (none)))) = some r := H
     have A9 := zA A90
     clear A90
     replace H := Option.bind_eq_some_iff.mp H
     obtain ⟨⟨t140, t141, t142⟩, A100, H⟩ := H
     replace H : ((float_Split.f k 5).bind fun bt143 => (if t140 = true then (if t141 = 6755399441055744 then (if t142 = (-52) then (if bt143.1 = true then (none) else (if bt143.2.1 = 5 then ((float_Join.f k false 0 1 0 false).bind fun t146 => (if t146 = 4607182418800017408 then ((float_Join.f k true 0 3 (-1) false).bind fun t147 => ((float_Join.f k false 0 1 (-1075) false).bind fun t148 => (if t148 = 0 then ((float_Join.f k false 0 1 (-1075) true).bind fun t149 => ((float_Join.f k false 0 9007199254740993 0 false).bind fun t150 => (if t150 = 4845873199050653696 then ((float_Join.f k false 0 9007199254740995 0 false).bind fun t151 => (if t151 = 4845873199050653698 then ((float_Join.f k false 0 9007199254740993 0 true).bind fun t152 => ((float_Join.f k false 0 1 1024 false).bind fun t153 => ((float_Next.f k 0).bind fun t154 => (if t154 = 1 then ((float_Next.f k 9223372036854775808).bind fun t155 => (if t155 = 1 then ((float_Next.f k 9218868437227405311).bind fun t156 => (if t156 = 9218868437227405312 then ((float_Next.f k 18442240474082181120).bind fun t157 => (if t157 = 18442240474082181119 then ((float_Next.f k 9223372036854775809).bind fun t158 => ((float_Prev.f k 0).bind fun t159 => (if t159 = 9223372036854775809 then ((float_Neg.f k 9218868437227405313).bind fun t160 => (if t139 = 4 then (if bt143.2.2 = (-1074) then (if t147 = 13832806255468478464 then (if t149 = 1 then (if t152 = 4845873199050653697 then (if t153 = 9218868437227405312 then (if t158 = 9223372036854775808 then (some (t160 == 9221120237041090560)) else (none)) else (none)) else (none)) else (none)) else (none)) else (none)) else (none))) else (none)))) else (none))) else (none))) else (none))) else (none))))) else (none))) else (none)))) else (none)))) else (none))) else (none))) else (none)) else (none)) else (none))) = some r := H
     have A10 := zA A100
     clear A100
     replace H := Option.bind_eq_some_iff.mp H
     obtain ⟨⟨t143, t144, t145⟩, A110, H⟩ := H
     replace H : (if t140 = true then (if t141 = 6755399441055744 then (if t142 = (-52) then (if t143 = true then (none) else (if t144 = 5 then ((float_Join.f k false 0 1 0 false).bind fun t146 => (if t146 = 4607182418800017408 then ((float_Join.f k true 0 3 (-1) false).bind fun t147 => ((float_Join.f k false 0 1 (-1075) false).bind fun t148 => (if t148 = 0 then ((float_Join.f k false 0 1 (-1075) true).bind fun t149 => ((float_Join.f k false 0 9007199254740993 0 false).bind fun t150 => (if t150 = 4845873199050653696 then ((float_Join.f k false 0 9007199254740995 0 false).bind fun t151 => (if t151 = 4845873199050653698 then ((float_Join.f k false 0 9007199254740993 0 true).bind fun t152 => ((float_Join.f k false 0 1 1024 false).bind fun t153 => ((float_Next.f k 0).bind fun t154 => (if t154 = 1 then ((float_Next.f k 9223372036854775808).bind fun t155 => (if t155 = 1 then ((float_Next.f k 9218868437227405311).bind fun t156 => (if t156 = 9218868437227405312 then ((float_Next.f k 18442240474082181120).bind fun t157 => (if t157 = 18442240474082181119 then ((float_Next.f k 9223372036854775809).bind fun t158 => ((float_Prev.f k 0).bind fun t159 => (if t159 = 9223372036854775809 then ((float_Neg.f k 9218868437227405313).bind fun t160 => (if t139 = 4 then (if t145 = (-1074) then (if t147 = 13832806255468478464 then (if t149 = 1 then (if t152 = 4845873199050653697 then (if t153 = 9218868437227405312 then (if t158 = 9223372036854775808 then (some (t160 == 9221120237041090560)) else (none)) else (none)) else (none)) else (none)) else (none)) else (none)) else (none))) else (none)))) else (none))) else (none))) else (none))) else (none))))) else (none))) else (none)))) else (none)))) else (none))) else (none))) else (none)) else (none)) else (none)) = some r := H
     have A11 := zA A110
     clear A110
     by_cases c12 : t140 = true
     ·
      subst c12
      have H1 : (if t141 = 6755399441055744 then (if t142 = (-52) then (if t143 = true then (none) else (if t144 = 5 then ((float_Join.f k false 0 1 0 false).bind fun t146 => (if t146 = 4607182418800017408 then ((float_Join.f k true 0 3 (-1) false).bind fun t147 => ((float_Join.f k false 0 1 (-1075) false).bind fun t148 => (if t148 = 0 then ((float_Join.f k false 0 1 (-1075) true).bind fun t149 => ((float_Join.f k false 0 9007199254740993 0 false).bind fun t150 => (if t150 = 4845873199050653696 then ((float_Join.f k false 0 9007199254740995 0 false).bind fun t151 => (if t151 = 4845873199050653698 then ((float_Join.f k false 0 9007199254740993 0 true).bind fun t152 => ((float_Join.f k false 0 1 1024 false).bind fun t153 => ((float_Next.f k 0).bind fun t154 => (if t154 = 1 then ((float_Next.f k 9223372036854775808).bind fun t155 => (if t155 = 1 then ((float_Next.f k 9218868437227405311).bind fun t156 => (if t156 = 9218868437227405312 then ((float_Next.f k 18442240474082181120).bind fun t157 => (if t157 = 18442240474082181119 then ((float_Next.f k 9223372036854775809).bind fun t158 => ((float_Prev.f k 0).bind fun t159 => (if t159 = 9223372036854775809 then ((float_Neg.f k 9218868437227405313).bind fun t160 => (if t139 = 4 then (if t145 = (-1074) then (if t147 = 13832806255468478464 then (if t149 = 1 then (if t152 = 4845873199050653697 then (if t153 = 9218868437227405312 then (if t158 = 9223372036854775808 then (some (t160 == 9221120237041090560)) else (none)) else (none)) else (none)) else (none)) else (none)) else (none)) else (none))) else (none)))) else (none))) else (none))) else (none))) else (none))))) else (none))) else (none)))) else (none)))) else (none))) else (none))) else (none)) else (none)) = some r := by rw [if_pos rfl] at H; exact H
      clear H
      have H := H1
      clear H1
      by_cases c13 : t141 = 6755399441055744
      ·
       rw [if_pos c13] at H
       have c13b0 : (t141 == 6755399441055744) = true := beq_iff_eq.mpr c13
       have c13b1 : (t141 != 6755399441055744) = false := bne_eq_false_iff_eq.mpr c13
       clear c13
       by_cases c14 : t142 = (-52)
       ·
        rw [if_pos c14] at H
        have c14b0 : (t142 == (-52)) = true := beq_iff_eq.mpr c14
        have c14b1 : (t142 != (-52)) = false := bne_eq_false_iff_eq.mpr c14
        clear c14
        by_cases c15 : t143 = true
        ·
         subst c15
         have H1 : (none) = some r := by rw [if_pos rfl] at H; exact H
         clear H
         have H := H1
         clear H1
         exact absurd H (by simp)
        ·
         replace c15 := Bool.eq_false_iff.mpr c15
         subst c15
         have H1 : (if t144 = 5 then ((float_Join.f k false 0 1 0 false).bind fun t146 => (if t146 = 4607182418800017408 then ((float_Join.f k true 0 3 (-1) false).bind fun t147 => ((float_Join.f k false 0 1 (-1075) false).bind fun t148 => (if t148 = 0 then ((float_Join.f k false 0 1 (-1075) true).bind fun t149 => ((float_Join.f k false 0 9007199254740993 0 false).bind fun t150 => (if t150 = 4845873199050653696 then ((float_Join.f k false 0 9007199254740995 0 false).bind fun t151 => (if t151 = 4845873199050653698 then ((float_Join.f k false 0 9007199254740993 0 true).bind fun t152 => ((float_Join.f k false 0 1 1024 false).bind fun t153 => ((float_Next.f k 0).bind fun t154 => (if t154 = 1 then ((float_Next.f k 9223372036854775808).bind fun t155 => (if t155 = 1 then ((float_Next.f k 9218868437227405311).bind fun t156 => (if t156 = 9218868437227405312 then ((float_Next.f k 18442240474082181120).bind fun t157 => (if t157 = 18442240474082181119 then ((float_Next.f k 9223372036854775809).bind fun t158 => ((float_Prev.f k 0).bind fun t159 => (if t159 = 9223372036854775809 then ((float_Neg.f k 9218868437227405313).bind fun t160 => (if t139 = 4 then (if t145 = (-1074) then (if t147 = 13832806255468478464 then (if t149 = 1 then (if t152 = 4845873199050653697 then (if t153 = 9218868437227405312 then (if t158 = 9223372036854775808 then (some (t160 == 9221120237041090560)) else (none)) else (none)) else (none)) else (none)) else (none)) else (none)) else (none))) else (none)))) else (none))) else (none))) else (none))) else (none))))) else (none))) else (none)))) else (none)))) else (none))) else (none)) = some r := by rw [if_neg (show ¬ (false = true) by decide)] at H; exact H
         clear H
         have H := H1
         clear H1
         by_cases c16 : t144 = 5
         ·
          rw [if_pos c16] at H
          have c16b0 : (t144 == 5) = true := beq_iff_eq.mpr c16
          have c16b1 : (t144 != 5) = false := bne_eq_false_iff_eq.mpr c16
          clear c16
          replace H := Option.bind_eq_some_iff.mp H
          obtain ⟨t146, A170, H⟩ := H
          replace H : (if t146 = 4607182418800017408 then ((float_Join.f k true 0 3 (-1) false).bind fun t147 => ((float_Join.f k false 0 1 (-1075) false).bind fun t148 => (if t148 = 0 then ((float_Join.f k false 0 1 (-1075) true).bind fun t149 => ((float_Join.f k false 0 9007199254740993 0 false).bind fun t150 => (if t150 = 4845873199050653696 then ((float_Join.f k false 0 9007199254740995 0 false).bind fun t151 => (if t151 = 4845873199050653698 then ((float_Join.f k false 0 9007199254740993 0 true).bind fun t152 => ((float_Join.f k false 0 1 1024 false).bind fun t153 => ((float_Next.f k 0).bind fun t154 => (if t154 = 1 then ((float_Next.f k 9223372036854775808).bind fun t155 => (if t155 = 1 then ((float_Next.f k 9218868437227405311).bind fun t156 => (if t156 = 9218868437227405312 then ((float_Next.f k 18442240474082181120).bind fun t157 => (if t157 = 18442240474082181119 then ((float_Next.f k 9223372036854775809).bind fun t158 => ((float_Prev.f k 0).bind fun t159 => (if t159 = 9223372036854775809 then ((float_Neg.f k 9218868437227405313).bind fun t160 => (if t139 = 4 then (if t145 = (-1074) then (if t147 = 13832806255468478464 then (if t149 = 1 then (if t152 = 4845873199050653697 then (if t153 = 9218868437227405312 then (if t158 = 9223372036854775808 then (some (t160 == 9221120237041090560)) else (none)) else (none)) else (none)) else (none)) else (none)) else (none)) else (none))) else (none)))) else (none))) else (none))) else (none))) else (none))))) else (none))) else (none)))) else (none)))) else (none)) = some r := H
          have A17 := zA A170
          clear A170
          by_cases c18 : t146 = 4607182418800017408
          ·
           rw [if_pos c18] at H
           have c18b0 : (t146 == 4607182418800017408) = true := beq_iff_eq.mpr c18
           have c18b1 : (t146 != 4607182418800017408) = false := bne_eq_false_iff_eq.mpr c18
           clear c18
           replace H := Option.bind_eq_some_iff.mp H
           obtain ⟨t147, A190, H⟩ := H
           replace H : ((float_Join.f k false 0 1 (-1075) false).bind fun t148 => (if t148 = 0 then ((float_Join.f k false 0 1 (-1075) true).bind fun t149 => ((float_Join.f k false 0 9007199254740993 0 false).bind fun t150 => (if t150 = 4845873199050653696 then ((float_Join.f k false 0 9007199254740995 0 false).bind fun t151 => (if t151 = 4845873199050653698 then ((float_Join.f k false 0 9007199254740993 0 true).bind fun t152 => ((float_Join.f k false 0 1 1024 false).bind fun t153 => ((float_Next.f k 0).bind fun t154 => (if t154 = 1 then ((float_Next.f k 9223372036854775808).bind fun t155 => (if t155 = 1 then ((float_Next.f k 9218868437227405311).bind fun t156 => (if t156 = 9218868437227405312 then ((float_Next.f k 18442240474082181120).bind fun t157 => (if t157 = 18442240474082181119 then ((float_Next.f k 9223372036854775809).bind fun t158 => ((float_Prev.f k 0).bind fun t159 => (if t159 = 9223372036854775809 then ((float_Neg.f k 9218868437227405313).bind fun t160 => (if t139 = 4 then (if t145 = (-1074) then (if t147 = 13832806255468478464 then (if t149 = 1 then (if t152 = 4845873199050653697 then (if t153 = 9218868437227405312 then (if t158 = 9223372036854775808 then (some (t160 == 9221120237041090560)) else (none)) else (none)) else (none)) else (none)) else (none)) else (none)) else (none))) else (none)))) else (none))) else (none))) else (none))) else (none))))) else (none))) else (none)))) else (none))) = some r := H
           have A19 := zA A190
           clear A190
           replace H := Option.bind_eq_some_iff.mp H
           obtain ⟨t148, A200, H⟩ := H
           replace H : (if t148 = 0 then ((float_Join.f k false 0 1 (-1075) true).bind fun t149 => ((float_Join.f k false 0 9007199254740993 0 false).bind fun t150 => (if t150 = 4845873199050653696 then ((float_Join.f k false 0 9007199254740995 0 false).bind fun t151 => (if t151 = 4845873199050653698 then ((float_Join.f k false 0 9007199254740993 0 true).bind fun t152 => ((float_Join.f k false 0 1 1024 false).bind fun t153 => ((float_Next.f k 0).bind fun t154 => (if t154 = 1 then ((float_Next.f k 9223372036854775808).bind fun t155 => (if t155 = 1 then ((float_Next.f k 9218868437227405311).bind fun t156 => (if t156 = 9218868437227405312 then ((float_Next.f k 18442240474082181120).bind fun t157 => (if t157 = 18442240474082181119 then ((float_Next.f k 9223372036854775809).bind fun t158 => ((float_Prev.f k 0).bind fun t159 => (if t159 = 9223372036854775809 then ((float_Neg.f k 9218868437227405313).bind fun t160 => (if t139 = 4 then (if t145 = (-1074) then (if t147 = 13832806255468478464 then (if t149 = 1 then (if t152 = 4845873199050653697 then (if t153 = 9218868437227405312 then (if t158 = 9223372036854775808 then (some (t160 == 9221120237041090560)) else (none)) else (none)) else (none)) else (none)) else (none)) else (none)) else (none))) else (none)))) else (none))) else (none))) else (none))) else (none))))) else (none))) else (none)))) else (none)) = some r := H
           have A20 := zA A200
           clear A200
           by_cases c21 : t148 = 0
           ·
            rw [if_pos c21] at H
            have c21b0 : (t148 == 0) = true := beq_iff_eq.mpr c21
            have c21b1 : (t148 != 0) = false := bne_eq_false_iff_eq.mpr c21
            clear c21
            replace H := Option.bind_eq_some_iff.mp H
            obtain ⟨t149, A220, H⟩ := H
            replace H : ((float_Join.f k false 0 9007199254740993 0 false).bind fun t150 => (if t150 = 4845873199050653696 then ((float_Join.f k false 0 9007199254740995 0 false).bind fun t151 => (if t151 = 4845873199050653698 then ((float_Join.f k false 0 9007199254740993 0 true).bind fun t152 => ((float_Join.f k false 0 1 1024 false).bind fun t153 => ((float_Next.f k 0).bind fun t154 => (if t154 = 1 then ((float_Next.f k 9223372036854775808).bind fun t155 => (if t155 = 1 then ((float_Next.f k 9218868437227405311).bind fun t156 => (if t156 = 9218868437227405312 then ((float_Next.f k 18442240474082181120).bind fun t157 => (if t157 = 18442240474082181119 then ((float_Next.f k 9223372036854775809).bind fun t158 => ((float_Prev.f k 0).bind fun t159 => (if t159 = 9223372036854775809 then ((float_Neg.f k 9218868437227405313).bind fun t160 => (if t139 = 4 then (if t145 = (-1074) then (if t147 = 13832806255468478464 then (if t149 = 1 then (if t152 = 4845873199050653697 then (if t153 = 9218868437227405312 then (if t158 = 9223372036854775808 then (some (t160 == 9221120237041090560)) else (none)) else (none)) else (none)) else (none)) else (none)) else (none)) else (none))) else (none)))) else (none))) else (none))) else (none))) else (none))))) else (none))) else (none))) = some r := H
            have A22 := zA A220
            clear A220
            replace H := Option.bind_eq_some_iff.mp H
            obtain ⟨t150, A230, H⟩ := H
            replace H : (if t150 = 4845873199050653696 then ((float_Join.f k false 0 9007199254740995 0 false).bind fun t151 => (if t151 = 4845873199050653698 then ((float_Join.f k false 0 9007199254740993 0 true).bind fun t152 => ((float_Join.f k false 0 1 1024 false).bind fun t153 => ((float_Next.f k 0).bind fun t154 => (if t154 = 1 then ((float_Next.f k 9223372036854775808).bind fun t155 => (if t155 = 1 then ((float_Next.f k 9218868437227405311).bind fun t156 => (if t156 = 9218868437227405312 then ((float_Next.f k 18442240474082181120).bind fun t157 => (if t157 = 18442240474082181119 then ((float_Next.f k 9223372036854775809).bind fun t158 => ((float_Prev.f k 0).bind fun t159 => (if t159 = 9223372036854775809 then ((float_Neg.f k 9218868437227405313).bind fun t160 => (if t139 = 4 then (if t145 = (-1074) then (if t147 = 13832806255468478464 then (if t149 = 1 then (if t152 = 4845873199050653697 then (if t153 = 9218868437227405312 then (if t158 = 9223372036854775808 then (some (t160 == 9221120237041090560)) else (none)) else (none)) else (none)) else (none)) else (none)) else (none)) else (none))) else (none)))) else (none))) else (none))) else (none))) else (none))))) else (none))) else (none)) = some r := H
            have A23 := zA A230
            clear A230
            by_cases c24 : t150 = 4845873199050653696
            ·
             rw [if_pos c24] at H
             have c24b0 : (t150 == 4845873199050653696) = true := beq_iff_eq.mpr c24
             have c24b1 : (t150 != 4845873199050653696) = false := bne_eq_false_iff_eq.mpr c24
             clear c24
             replace H := Option.bind_eq_some_iff.mp H
             obtain ⟨t151, A250, H⟩ := H
             replace H : (if t151 = 4845873199050653698 then ((float_Join.f k false 0 9007199254740993 0 true).bind fun t152 => ((float_Join.f k false 0 1 1024 false).bind fun t153 => ((float_Next.f k 0).bind fun t154 => (if t154 = 1 then ((float_Next.f k 9223372036854775808).bind fun t155 => (if t155 = 1 then ((float_Next.f k 9218868437227405311).bind fun t156 => (if t156 = 9218868437227405312 then ((float_Next.f k 18442240474082181120).bind fun t157 => (if t157 = 18442240474082181119 then ((float_Next.f k 9223372036854775809).bind fun t158 => ((float_Prev.f k 0).bind fun t159 => (if t159 = 9223372036854775809 then ((float_Neg.f k 9218868437227405313).bind fun t160 => (if t139 = 4 then (if t145 = (-1074) then (if t147 = 13832806255468478464 then (if t149 = 1 then (if t152 = 4845873199050653697 then (if t153 = 9218868437227405312 then (if t158 = 9223372036854775808 then (some (t160 == 9221120237041090560)) else (none)) else (none)) else (none)) else (none)) else (none)) else (none)) else (none))) else (none)))) else (none))) else (none))) else (none))) else (none))))) else (none)) = some r := H
             have A25 := zA A250
             clear A250
             by_cases c26 : t151 = 4845873199050653698
             ·
              rw [if_pos c26] at H
              have c26b0 : (t151 == 4845873199050653698) = true := beq_iff_eq.mpr c26
              have c26b1 : (t151 != 4845873199050653698) = false := bne_eq_false_iff_eq.mpr c26
              clear c26
              replace H := Option.bind_eq_some_iff.mp H
              obtain ⟨t152, A270, H⟩ := H
              replace H : ((float_Join.f k false 0 1 1024 false).bind fun t153 => ((float_Next.f k 0).bind fun t154 => (if t154 = 1 then ((float_Next.f k 9223372036854775808).bind fun t155 => (if t155 = 1 then ((float_Next.f k 9218868437227405311).bind fun t156 => (if t156 = 9218868437227405312 then ((float_Next.f k 18442240474082181120).bind fun t157 => (if t157 = 18442240474082181119 then ((float_Next.f k 9223372036854775809).bind fun t158 => ((float_Prev.f k 0).bind fun t159 => (if t159 = 9223372036854775809 then ((float_Neg.f k 9218868437227405313).bind fun t160 => (if t139 = 4 then (if t145 = (-1074) then (if t147 = 13832806255468478464 then (if t149 = 1 then (if t152 = 4845873199050653697 then (if t153 = 9218868437227405312 then (if t158 = 9223372036854775808 then (some (t160 == 9221120237041090560)) else (none)) else (none)) else (none)) else (none)) else (none)) else (none)) else (none))) else (none)))) else (none))) else (none))) else (none))) else (none)))) = some r := H
              have A27 := zA A270
              clear A270
              replace H := Option.bind_eq_some_iff.mp H
              obtain ⟨t153, A280, H⟩ := H
              replace H : ((float_Next.f k 0).bind fun t154 => (if t154 = 1 then ((float_Next.f k 9223372036854775808).bind fun t155 => (if t155 = 1 then ((float_Next.f k 9218868437227405311).bind fun t156 => (if t156 = 9218868437227405312 then ((float_Next.f k 18442240474082181120).bind fun t157 => (if t157 = 18442240474082181119 then ((float_Next.f k 9223372036854775809).bind fun t158 => ((float_Prev.f k 0).bind fun t159 => (if t159 = 9223372036854775809 then ((float_Neg.f k 9218868437227405313).bind fun t160 => (if t139 = 4 then (if t145 = (-1074) then (if t147 = 13832806255468478464 then (if t149 = 1 then (if t152 = 4845873199050653697 then (if t153 = 9218868437227405312 then (if t158 = 9223372036854775808 then (some (t160 == 9221120237041090560)) else (none)) else (none)) else (none)) else (none)) else (none)) else (none)) else (none))) else (none)))) else (none))) else (none))) else (none))) else (none))) = some r := H
              have A28 := zA A280
              clear A280
              replace H := Option.bind_eq_some_iff.mp H
              obtain ⟨t154, A290, H⟩ := H
              replace H : (if t154 = 1 then ((float_Next.f k 9223372036854775808).bind fun t155 => (if t155 = 1 then ((float_Next.f k 9218868437227405311).bind fun t156 => (if t156 = 9218868437227405312 then ((float_Next.f k 18442240474082181120).bind fun t157 => (if t157 = 18442240474082181119 then ((float_Next.f k 9223372036854775809).bind fun t158 => ((float_Prev.f k 0).bind fun t159 => (if t159 = 9223372036854775809 then ((float_Neg.f k 9218868437227405313).bind fun t160 => (if t139 = 4 then (if t145 = (-1074) then (if t147 = 13832806255468478464 then (if t149 = 1 then (if t152 = 4845873199050653697 then (if t153 = 9218868437227405312 then (if t158 = 9223372036854775808 then (some (t160 == 9221120237041090560)) else (none)) else (none)) else (none)) else (none)) else (none)) else (none)) else (none))) else (none)))) else (none))) else (none))) else (none))) else (none)) = some r := H
              have A29 := zA A290
              clear A290
              by_cases c30 : t154 = 1
              ·
               rw [if_pos c30] at H
               have c30b0 : (t154 == 1) = true := beq_iff_eq.mpr c30
               have c30b1 : (t154 != 1) = false := bne_eq_false_iff_eq.mpr c30
               clear c30
               replace H := Option.bind_eq_some_iff.mp H
               obtain ⟨t155, A310, H⟩ := H
               replace H : (if t155 = 1 then ((float_Next.f k 9218868437227405311).bind fun t156 => (if t156 = 9218868437227405312 then ((float_Next.f k 18442240474082181120).bind fun t157 => (if t157 = 18442240474082181119 then ((float_Next.f k 9223372036854775809).bind fun t158 => ((float_Prev.f k 0).bind fun t159 => (if t159 = 9223372036854775809 then ((float_Neg.f k 9218868437227405313).bind fun t160 => (if t139 = 4 then (if t145 = (-1074) then (if t147 = 13832806255468478464 then (if t149 = 1 then (if t152 = 4845873199050653697 then (if t153 = 9218868437227405312 then (if t158 = 9223372036854775808 then (some (t160 == 9221120237041090560)) else (none)) else (none)) else (none)) else (none)) else (none)) else (none)) else (none))) else (none)))) else (none))) else (none))) else (none)) = some r := H
               have A31 := zA A310
               clear A310
               by_cases c32 : t155 = 1
               ·
                rw [if_pos c32] at H
                have c32b0 : (t155 == 1) = true := beq_iff_eq.mpr c32
                have c32b1 : (t155 != 1) = false := bne_eq_false_iff_eq.mpr c32
                clear c32
                replace H := Option.bind_eq_some_iff.mp H
                obtain ⟨t156, A330, H⟩ := H
                replace H : (if t156 = 9218868437227405312 then ((float_Next.f k 18442240474082181120).bind fun t157 => (if t157 = 18442240474082181119 then ((float_Next.f k 9223372036854775809).bind fun t158 => ((float_Prev.f k 0).bind fun t159 => (if t159 = 9223372036854775809 then ((float_Neg.f k 9218868437227405313).bind fun t160 => (if t139 = 4 then (if t145 = (-1074) then (if t147 = 13832806255468478464 then (if t149 = 1 then (if t152 = 4845873199050653697 then (if t153 = 9218868437227405312 then (if t158 = 9223372036854775808 then (some (t160 == 9221120237041090560)) else (none)) else (none)) else (none)) else (none)) else (none)) else (none)) else (none))) else (none)))) else (none))) else (none)) = some r := H
                have A33 := zA A330
                clear A330
                by_cases c34 : t156 = 9218868437227405312
                ·
                 rw [if_pos c34] at H
                 have c34b0 : (t156 == 9218868437227405312) = true := beq_iff_eq.mpr c34
                 have c34b1 : (t156 != 9218868437227405312) = false := bne_eq_false_iff_eq.mpr c34
                 clear c34
                 replace H := Option.bind_eq_some_iff.mp H
                 obtain ⟨t157, A350, H⟩ := H
                 replace H : (if t157 = 18442240474082181119 then ((float_Next.f k 9223372036854775809).bind fun t158 => ((float_Prev.f k 0).bind fun t159 => (if t159 = 9223372036854775809 then ((float_Neg.f k 9218868437227405313).bind fun t160 => (if t139 = 4 then (if t145 = (-1074) then (if t147 = 13832806255468478464 then (if t149 = 1 then (if t152 = 4845873199050653697 then (if t153 = 9218868437227405312 then (if t158 = 9223372036854775808 then (some (t160 == 9221120237041090560)) else (none)) else (none)) else (none)) else (none)) else (none)) else (none)) else (none))) else (none)))) else (none)) = some r := H
                 have A35 := zA A350
                 clear A350
                 by_cases c36 : t157 = 18442240474082181119
                 ·
                  rw [if_pos c36] at H
                  have c36b0 : (t157 == 18442240474082181119) = true := beq_iff_eq.mpr c36
                  have c36b1 : (t157 != 18442240474082181119) = false := bne_eq_false_iff_eq.mpr c36
                  clear c36
                  replace H := Option.bind_eq_some_iff.mp H
                  obtain ⟨t158, A370, H⟩ := H
                  replace H : ((float_Prev.f k 0).bind fun t159 => (if t159 = 9223372036854775809 then ((float_Neg.f k 9218868437227405313).bind fun t160 => (if t139 = 4 then (if t145 = (-1074) then (if t147 = 13832806255468478464 then (if t149 = 1 then (if t152 = 4845873199050653697 then (if t153 = 9218868437227405312 then (if t158 = 9223372036854775808 then (some (t160 == 9221120237041090560)) else (none)) else (none)) else (none)) else (none)) else (none)) else (none)) else (none))) else (none))) = some r := H
                  have A37 := zA A370
                  clear A370
                  replace H := Option.bind_eq_some_iff.mp H
                  obtain ⟨t159, A380, H⟩ := H
                  replace H : (if t159 = 9223372036854775809 then ((float_Neg.f k 9218868437227405313).bind fun t160 => (if t139 = 4 then (if t145 = (-1074) then (if t147 = 13832806255468478464 then (if t149 = 1 then (if t152 = 4845873199050653697 then (if t153 = 9218868437227405312 then (if t158 = 9223372036854775808 then (some (t160 == 9221120237041090560)) else (none)) else (none)) else (none)) else (none)) else (none)) else (none)) else (none))) else (none)) = some r := H
                  have A38 := zA A380
                  clear A380
                  by_cases c39 : t159 = 9223372036854775809
                  ·
                   rw [if_pos c39] at H
                   have c39b0 : (t159 == 9223372036854775809) = true := beq_iff_eq.mpr c39
                   have c39b1 : (t159 != 9223372036854775809) = false := bne_eq_false_iff_eq.mpr c39
                   clear c39
                   replace H := Option.bind_eq_some_iff.mp H
                   obtain ⟨t160, A400, H⟩ := H
                   replace H : (if t139 = 4 then (if t145 = (-1074) then (if t147 = 13832806255468478464 then (if t149 = 1 then (if t152 = 4845873199050653697 then (if t153 = 9218868437227405312 then (if t158 = 9223372036854775808 then (some (t160 == 9221120237041090560)) else (none)) else (none)) else (none)) else (none)) else (none)) else (none)) else (none)) = some r := H
                   have A40 := zA A400
                   clear A400
                   by_cases c41 : t139 = 4
                   ·
                    rw [if_pos c41] at H
                    have c41b0 : (t139 == 4) = true := beq_iff_eq.mpr c41
                    have c41b1 : (t139 != 4) = false := bne_eq_false_iff_eq.mpr c41
                    clear c41
                    by_cases c42 : t145 = (-1074)
                    ·
                     rw [if_pos c42] at H
                     have c42b0 : (t145 == (-1074)) = true := beq_iff_eq.mpr c42
                     have c42b1 : (t145 != (-1074)) = false := bne_eq_false_iff_eq.mpr c42
                     clear c42
                     by_cases c43 : t147 = 13832806255468478464
                     ·
                      rw [if_pos c43] at H
                      have c43b0 : (t147 == 13832806255468478464) = true := beq_iff_eq.mpr c43
                      have c43b1 : (t147 != 13832806255468478464) = false := bne_eq_false_iff_eq.mpr c43
                      clear c43
                      by_cases c44 : t149 = 1
                      ·
                       rw [if_pos c44] at H
                       have c44b0 : (t149 == 1) = true := beq_iff_eq.mpr c44
                       have c44b1 : (t149 != 1) = false := bne_eq_false_iff_eq.mpr c44
                       clear c44
                       by_cases c45 : t152 = 4845873199050653697
                       ·
                        rw [if_pos c45] at H
                        have c45b0 : (t152 == 4845873199050653697) = true := beq_iff_eq.mpr c45
                        have c45b1 : (t152 != 4845873199050653697) = false := bne_eq_false_iff_eq.mpr c45
                        clear c45
                        by_cases c46 : t153 = 9218868437227405312
                        ·
                         rw [if_pos c46] at H
                         have c46b0 : (t153 == 9218868437227405312) = true := beq_iff_eq.mpr c46
                         have c46b1 : (t153 != 9218868437227405312) = false := bne_eq_false_iff_eq.mpr c46
                         clear c46
                         by_cases c47 : t158 = 9223372036854775808
                         ·
                          rw [if_pos c47] at H
                          have c47b0 : (t158 == 9223372036854775808) = true := beq_iff_eq.mpr c47
                          have c47b1 : (t158 != 9223372036854775808) = false := bne_eq_false_iff_eq.mpr c47
                          clear c47
                          obtain rfl := Option.some.inj H
                          go_enter Try.func19, Try.ntmps19
                          go_wp2_with (first | ((with_reducible refine zoq (f := 23) rfl ?_); refine goesL_ (some 15) rfl rfl Try.func23 (by kernel_rfl) rfl #[.int .u64 0] rfl (by (try simp only [List.map_toArray, List.map_cons, List.map_nil]); first | done | rfl | (simp only [List.length_drop, List.length_take]; rfl)) ?_; (with_reducible refine (float_Kind.calls k 0 t135 _ A1.out).mono ?_); rintro e w' ⟨rfl, ⟨nd, rfl⟩⟩; refine ⟨_, rfl, ?_⟩) | (go_at_call 23; (with_reducible refine (float_Kind.calls k 1 t136 _ A3.out).mono ?_); rintro e w' ⟨rfl, ⟨nd, rfl⟩⟩) | (go_at_call 23; (with_reducible refine (float_Kind.calls k 4607182418800017408 t137 _ A5.out).mono ?_); rintro e w' ⟨rfl, ⟨nd, rfl⟩⟩) | (go_at_call 23; (with_reducible refine (float_Kind.calls k 18442240474082181120 t138 _ A7.out).mono ?_); rintro e w' ⟨rfl, ⟨nd, rfl⟩⟩) | (go_at_call 23; (with_reducible refine (float_Kind.calls k 9218868437227405313 t139 _ A9.out).mono ?_); rintro e w' ⟨rfl, ⟨nd, rfl⟩⟩) | ((with_reducible refine zoq (f := 26) rfl ?_); refine goesL_ (some 34) rfl rfl Try.func26 (by kernel_rfl) rfl #[.int .u64 13832806255468478464] rfl (by (try simp only [List.map_toArray, List.map_cons, List.map_nil]); first | done | rfl | (simp only [List.length_drop, List.length_take]; rfl)) ?_; (with_reducible refine (float_Split.calls k 13832806255468478464 true t141 t142 _ A10.out).mono ?_); rintro e w' ⟨rfl, ⟨nd, rfl⟩⟩; refine ⟨_, rfl, ?_⟩) | ((with_reducible refine zoq (f := 26) rfl ?_); refine goesL_ (some 39) rfl rfl Try.func26 (by kernel_rfl) rfl #[.int .u64 5] rfl (by (try simp only [List.map_toArray, List.map_cons, List.map_nil]); first | done | rfl | (simp only [List.length_drop, List.length_take]; rfl)) ?_; (with_reducible refine (float_Split.calls k 5 false t144 t145 _ A11.out).mono ?_); rintro e w' ⟨rfl, ⟨nd, rfl⟩⟩; refine ⟨_, rfl, ?_⟩) | ((with_reducible refine zoq (f := 20) rfl ?_); refine goesL_ (some 65) rfl rfl Try.func20 (by kernel_rfl) rfl #[.bool false, .agg #[.int .u64 0, .int .u64 1], .int .i64 0, .bool false] rfl (by (try simp only [List.map_toArray, List.map_cons, List.map_nil]); first | done | rfl | (simp only [List.length_drop, List.length_take]; rfl)) ?_; (with_reducible refine (float_Join.calls k false 0 1 0 false t146 _ A17.out).mono ?_); rintro e w48 ⟨rfl, hb⟩; refine ⟨_, rfl, ?_⟩; have n0_ := zA (zeq (by repeat (first | (with_reducible first | exact HB.out | apply zaq | apply zbq | apply zcq) | exact HB.out)) hb); clear HB; have HB := n0_; clear n0_; (try clear hb); (try clear hb2); (try clear hk); (try clear hi)) | (go_at_call 20; (with_reducible refine (float_Join.calls k true 0 3 (-1) false t147 _ A19.out).mono ?_); rintro e w49 ⟨rfl, hb⟩; have n0_ := zA (zeq (by repeat (first | (with_reducible first | exact HB.out | apply zaq | apply zbq | apply zcq) | exact HB.out)) hb); clear HB; have HB := n0_; clear n0_; (try clear hb); (try clear hb2); (try clear hk); (try clear hi)) | ((with_reducible refine zoq (f := 20) rfl ?_); refine goesL_ (some 73) rfl rfl Try.func20 (by kernel_rfl) rfl #[.bool false, .agg #[.int .u64 0, .int .u64 1], .int .i64 (-1075), .bool false] rfl (by (try simp only [List.map_toArray, List.map_cons, List.map_nil]); first | done | rfl | (simp only [List.length_drop, List.length_take]; rfl)) ?_; (with_reducible refine (float_Join.calls k false 0 1 (-1075) false t148 _ A20.out).mono ?_); rintro e w50 ⟨rfl, hb⟩; refine ⟨_, rfl, ?_⟩; have n0_ := zA (zeq (by repeat (first | (with_reducible first | exact HB.out | apply zaq | apply zbq | apply zcq) | exact HB.out)) hb); clear HB; have HB := n0_; clear n0_; (try clear hb); (try clear hb2); (try clear hk); (try clear hi)) | (go_at_call 20; (with_reducible refine (float_Join.calls k false 0 1 (-1075) true t149 _ A22.out).mono ?_); rintro e w51 ⟨rfl, hb⟩; have n0_ := zA (zeq (by repeat (first | (with_reducible first | exact HB.out | apply zaq | apply zbq | apply zcq) | exact HB.out)) hb); clear HB; have HB := n0_; clear n0_; (try clear hb); (try clear hb2); (try clear hk); (try clear hi)) | ((with_reducible refine zoq (f := 20) rfl ?_); refine goesL_ (some 81) rfl rfl Try.func20 (by kernel_rfl) rfl #[.bool false, .agg #[.int .u64 0, .int .u64 9007199254740993], .int .i64 0, .bool false] rfl (by (try simp only [List.map_toArray, List.map_cons, List.map_nil]); first | done | rfl | (simp only [List.length_drop, List.length_take]; rfl)) ?_; (with_reducible refine (float_Join.calls k false 0 9007199254740993 0 false t150 _ A23.out).mono ?_); rintro e w52 ⟨rfl, hb⟩; refine ⟨_, rfl, ?_⟩; have n0_ := zA (zeq (by repeat (first | (with_reducible first | exact HB.out | apply zaq | apply zbq | apply zcq) | exact HB.out)) hb); clear HB; have HB := n0_; clear n0_; (try clear hb); (try clear hb2); (try clear hk); (try clear hi)) | (go_at_call 20; (with_reducible refine (float_Join.calls k false 0 9007199254740995 0 false t151 _ A25.out).mono ?_); rintro e w53 ⟨rfl, hb⟩; have n0_ := zA (zeq (by repeat (first | (with_reducible first | exact HB.out | apply zaq | apply zbq | apply zcq) | exact HB.out)) hb); clear HB; have HB := n0_; clear n0_; (try clear hb); (try clear hb2); (try clear hk); (try clear hi)) | (go_at_call 20; (with_reducible refine (float_Join.calls k false 0 9007199254740993 0 true t152 _ A27.out).mono ?_); rintro e w54 ⟨rfl, hb⟩; have n0_ := zA (zeq (by repeat (first | (with_reducible first | exact HB.out | apply zaq | apply zbq | apply zcq) | exact HB.out)) hb); clear HB; have HB := n0_; clear n0_; (try clear hb); (try clear hb2); (try clear hk); (try clear hi)) | ((with_reducible refine zoq (f := 20) rfl ?_); refine goesL_ (some 94) rfl rfl Try.func20 (by kernel_rfl) rfl #[.bool false, .agg #[.int .u64 0, .int .u64 1], .int .i64 1024, .bool false] rfl (by (try simp only [List.map_toArray, List.map_cons, List.map_nil]); first | done | rfl | (simp only [List.length_drop, List.length_take]; rfl)) ?_; (with_reducible refine (float_Join.calls k false 0 1 1024 false t153 _ A28.out).mono ?_); rintro e w55 ⟨rfl, hb⟩; refine ⟨_, rfl, ?_⟩; have n0_ := zA (zeq (by repeat (first | (with_reducible first | exact HB.out | apply zaq | apply zbq | apply zcq) | exact HB.out)) hb); clear HB; have HB := n0_; clear n0_; (try clear hb); (try clear hb2); (try clear hk); (try clear hi)) | ((with_reducible refine zoq (f := 24) rfl ?_); refine goesL_ (some 96) rfl rfl Try.func24 (by kernel_rfl) rfl #[.int .u64 0] rfl (by (try simp only [List.map_toArray, List.map_cons, List.map_nil]); first | done | rfl | (simp only [List.length_drop, List.length_take]; rfl)) ?_; (with_reducible refine (float_Next.calls k 0 t154 _ A29.out).mono ?_); rintro e w' ⟨rfl, ⟨nd, rfl⟩⟩; refine ⟨_, rfl, ?_⟩) | (go_at_call 24; (with_reducible refine (float_Next.calls k 9223372036854775808 t155 _ A31.out).mono ?_); rintro e w' ⟨rfl, ⟨nd, rfl⟩⟩) | (go_at_call 24; (with_reducible refine (float_Next.calls k 9218868437227405311 t156 _ A33.out).mono ?_); rintro e w' ⟨rfl, ⟨nd, rfl⟩⟩) | (go_at_call 24; (with_reducible refine (float_Next.calls k 18442240474082181120 t157 _ A35.out).mono ?_); rintro e w' ⟨rfl, ⟨nd, rfl⟩⟩) | (go_at_call 24; (with_reducible refine (float_Next.calls k 9223372036854775809 t158 _ A37.out).mono ?_); rintro e w' ⟨rfl, ⟨nd, rfl⟩⟩) | ((with_reducible refine zoq (f := 25) rfl ?_); refine goesL_ (some 114) rfl rfl Try.func25 (by kernel_rfl) rfl #[.int .u64 0] rfl (by (try simp only [List.map_toArray, List.map_cons, List.map_nil]); first | done | rfl | (simp only [List.length_drop, List.length_take]; rfl)) ?_; (with_reducible refine (float_Prev.calls k 0 t159 _ A38.out).mono ?_); rintro e w' ⟨rfl, ⟨nd, rfl⟩⟩; refine ⟨_, rfl, ?_⟩) | (go_at_call 32; (with_reducible refine (float_Neg.calls k 9218868437227405313 t160 _ A40.out).mono ?_); rintro e w' ⟨rfl, ⟨nd, rfl⟩⟩))
                          go_ret
                          exact ⟨by first | rfl | (simp [errW_none, errW_some] <;> rfl) | (simp [*, errW_none, errW_some] <;> rfl), by repeat (first | (with_reducible first | exact HB.out | apply zaq | apply zbq | apply zcq) | exact HB.out)⟩
                         ·
                          rw [if_neg c47] at H
                          exact absurd H (by simp)
                        ·
                         rw [if_neg c46] at H
                         exact absurd H (by simp)
                       ·
                        rw [if_neg c45] at H
                        exact absurd H (by simp)
                      ·
                       rw [if_neg c44] at H
                       exact absurd H (by simp)
                     ·
                      rw [if_neg c43] at H
                      exact absurd H (by simp)
                    ·
                     rw [if_neg c42] at H
                     exact absurd H (by simp)
                   ·
                    rw [if_neg c41] at H
                    exact absurd H (by simp)
                  ·
                   rw [if_neg c39] at H
                   exact absurd H (by simp)
                 ·
                  rw [if_neg c36] at H
                  exact absurd H (by simp)
                ·
                 rw [if_neg c34] at H
                 exact absurd H (by simp)
               ·
                rw [if_neg c32] at H
                exact absurd H (by simp)
              ·
               rw [if_neg c30] at H
               exact absurd H (by simp)
             ·
              rw [if_neg c26] at H
              exact absurd H (by simp)
            ·
             rw [if_neg c24] at H
             exact absurd H (by simp)
           ·
            rw [if_neg c21] at H
            exact absurd H (by simp)
          ·
           rw [if_neg c18] at H
           exact absurd H (by simp)
         ·
          rw [if_neg c16] at H
          exact absurd H (by simp)
       ·
        rw [if_neg c14] at H
        exact absurd H (by simp)
      ·
       rw [if_neg c13] at H
       exact absurd H (by simp)
     ·
      replace c12 := Bool.eq_false_iff.mpr c12
      subst c12
      have H1 : (none) = some r := by rw [if_neg (show ¬ (false = true) by decide)] at H; exact H
      clear H
      have H := H1
      clear H1
      exact absurd H (by simp)
    ·
     rw [if_neg c8] at H
     exact absurd H (by simp)
   ·
    rw [if_neg c6] at H
    exact absurd H (by simp)
  ·
   rw [if_neg c4] at H
   exact absurd H (by simp)
 ·
  rw [if_neg c2] at H
  exact absurd H (by simp)

end Go.Proofs.Ytbejjlecpcphoaa.P
