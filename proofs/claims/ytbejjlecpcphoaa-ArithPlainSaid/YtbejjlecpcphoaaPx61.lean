-- Written by a program of this session's (a turned print), not by hand.
import Derived.Test.YtbejjlecpcphoaaPx0
import Derived.Test.YtbejjlecpcphoaaPx20
import Derived.Test.YtbejjlecpcphoaaPx21
import Derived.Test.YtbejjlecpcphoaaPx47
import Derived.Test.YtbejjlecpcphoaaPx49
import Derived.Test.YtbejjlecpcphoaaPx50
namespace Go.Proofs.Ytbejjlecpcphoaa.P
open Go.RowKit Go.Proofs.YtbejjlecpcphoaaW.PrintWords Go.Proofs.YtbejjlecpcphoaaW.PrintLast Go.Proofs.YtbejjlecpcphoaaW.PrintMore
attribute [local go_sem] max2_int min2_int max_two min_two max_three min_three max_four min_four   -- for this text's walks alone
set_option linter.unusedVariables false
set_option linter.unusedSimpArgs false

/-! ### tabardlaw4_ArithPlain: function 18 -/
def tabardlaw4_ArithPlain.f (k : Nat) (a0 : Int) : Option (Bool) := (tabardlaw4_shown.f k).bind fun t967 => (if t967 = true then ((tabardref3_Right.f k a0).bind fun t968 => ((arith_Mul.f k a0 4607182418800017408).bind fun t969 => (if t969 = t968 then ((arith_Add.f k a0 a0).bind fun t970 => ((arith_Mul.f k a0 4611686018427387904).bind fun t971 => (if t970 = t971 then ((arith_Mul.f k a0 13830554455654793216).bind fun t972 => ((tabardref3_Neg.f k a0).bind fun t973 => (if t972 = t973 then ((tabardref3_Kind.f k a0).bind fun t974 => (if t974 ≥ 3 then ((arith_Sub.f k a0 a0).bind fun t975 => (if t975 = 9221120237041090560 then ((arith_Add.f k a0 0).bind fun t976 => (some (t976 == t968))) else (none))) else ((arith_Sub.f k a0 a0).bind fun t977 => (if t977 = 0 then (if a0 = 9223372036854775808 then ((arith_Add.f k a0 9223372036854775808).bind fun t978 => (some (t978 == a0))) else ((arith_Add.f k a0 0).bind fun t979 => (if t979 = a0 then ((arith_Add.f k a0 9223372036854775808).bind fun t980 => (some (t980 == a0))) else (none)))) else (none))))) else (none)))) else (none)))) else (none)))) else (none))
theorem tabardlaw4_ArithPlain.mono : ∀ a0 k, LeO (tabardlaw4_ArithPlain.f k a0) (tabardlaw4_ArithPlain.f (k + 1) a0) := by
 intro a0 k
 unfold tabardlaw4_ArithPlain.f
 repeat' first
   | (with_reducible exact arith_Add.mono _ _ _)
   | (with_reducible exact arith_Mul.mono _ _ _)
   | (with_reducible exact arith_Sub.mono _ _ _)
   | (with_reducible exact tabardlaw4_shown.mono _)
   | (with_reducible exact tabardref3_Kind.mono _ _)
   | (with_reducible exact tabardref3_Neg.mono _ _)
   | (with_reducible exact tabardref3_Right.mono _ _)
   | (with_reducible exact LeO.refl _)
   | (with_reducible exact LeO.none _)
   | (with_reducible refine LeO.ite ?_ ?_)
   | (with_reducible refine LeO.bind ?_ (fun _ => ?_))
   | exact arith_Add.mono _ _ _
   | exact arith_Mul.mono _ _ _
   | exact arith_Sub.mono _ _ _
   | exact tabardlaw4_shown.mono _
   | exact tabardref3_Kind.mono _ _
   | exact tabardref3_Neg.mono _ _
   | exact tabardref3_Right.mono _ _
   | exact LeO.none _
   | refine LeO.ite ?_ ?_
   | refine LeO.bind ?_ (fun _ => ?_)
set_option maxHeartbeats 8000000 in
set_option maxRecDepth 100000 in
theorem tabardlaw4_ArithPlain.calls (k : Nat) (a0 : Int) (r : Bool) (w : World) (h : tabardlaw4_ArithPlain.f k a0 = some r) :
  Calls Try.prog 18 #[.int .u64 a0] w fun e w' => e = .returned (.bool r) ∧ Below w.heap.size w w' := by
 have HB := zA (Below.refl w.heap.size w)
 have H : ((tabardlaw4_shown.f k).bind fun t967 => (if t967 = true then ((tabardref3_Right.f k a0).bind fun t968 => ((arith_Mul.f k a0 4607182418800017408).bind fun t969 => (if t969 = t968 then ((arith_Add.f k a0 a0).bind fun t970 => ((arith_Mul.f k a0 4611686018427387904).bind fun t971 => (if t970 = t971 then ((arith_Mul.f k a0 13830554455654793216).bind fun t972 => ((tabardref3_Neg.f k a0).bind fun t973 => (if t972 = t973 then ((tabardref3_Kind.f k a0).bind fun t974 => (if t974 ≥ 3 then ((arith_Sub.f k a0 a0).bind fun t975 => (if t975 = 9221120237041090560 then ((arith_Add.f k a0 0).bind fun t976 => (some (t976 == t968))) else (none))) else ((arith_Sub.f k a0 a0).bind fun t977 => (if t977 = 0 then (if a0 = 9223372036854775808 then ((arith_Add.f k a0 9223372036854775808).bind fun t978 => (some (t978 == a0))) else ((arith_Add.f k a0 0).bind fun t979 => (if t979 = a0 then ((arith_Add.f k a0 9223372036854775808).bind fun t980 => (some (t980 == a0))) else (none)))) else (none))))) else (none)))) else (none)))) else (none)))) else (none))) = some r := h
 clear h
 replace H := Option.bind_eq_some_iff.mp H
 obtain ⟨t967, A20, H⟩ := H
 replace H : (if t967 = true then ((tabardref3_Right.f k a0).bind fun t968 => ((arith_Mul.f k a0 4607182418800017408).bind fun t969 => (if t969 = t968 then ((arith_Add.f k a0 a0).bind fun t970 => ((arith_Mul.f k a0 4611686018427387904).bind fun t971 => (if t970 = t971 then ((arith_Mul.f k a0 13830554455654793216).bind fun t972 => ((tabardref3_Neg.f k a0).bind fun t973 => (if t972 = t973 then ((tabardref3_Kind.f k a0).bind fun t974 => (if t974 ≥ 3 then ((arith_Sub.f k a0 a0).bind fun t975 => (if t975 = 9221120237041090560 then ((arith_Add.f k a0 0).bind fun t976 => (some (t976 == t968))) else (none))) else ((arith_Sub.f k a0 a0).bind fun t977 => (if t977 = 0 then (if a0 = 9223372036854775808 then ((arith_Add.f k a0 9223372036854775808).bind fun t978 => (some (t978 == a0))) else ((arith_Add.f k a0 0).bind fun t979 => (if t979 = a0 then ((arith_Add.f k a0 9223372036854775808).bind fun t980 => (some (t980 == a0))) else (none)))) else (none))))) else (none)))) else (none)))) else (none)))) else (none)) = some r := H
 have A2 := zA A20
 clear A20
 by_cases c3 : t967 = true
 ·
  subst c3
  have H1 : ((tabardref3_Right.f k a0).bind fun t968 => ((arith_Mul.f k a0 4607182418800017408).bind fun t969 => (if t969 = t968 then ((arith_Add.f k a0 a0).bind fun t970 => ((arith_Mul.f k a0 4611686018427387904).bind fun t971 => (if t970 = t971 then ((arith_Mul.f k a0 13830554455654793216).bind fun t972 => ((tabardref3_Neg.f k a0).bind fun t973 => (if t972 = t973 then ((tabardref3_Kind.f k a0).bind fun t974 => (if t974 ≥ 3 then ((arith_Sub.f k a0 a0).bind fun t975 => (if t975 = 9221120237041090560 then ((arith_Add.f k a0 0).bind fun t976 => (some (t976 == t968))) else (none))) else ((arith_Sub.f k a0 a0).bind fun t977 => (if t977 = 0 then (if a0 = 9223372036854775808 then ((arith_Add.f k a0 9223372036854775808).bind fun t978 => (some (t978 == a0))) else ((arith_Add.f k a0 0).bind fun t979 => (if t979 = a0 then ((arith_Add.f k a0 9223372036854775808).bind fun t980 => (some (t980 == a0))) else (none)))) else (none))))) else (none)))) else (none)))) else (none)))) = some r := by rw [if_pos rfl] at H; exact H
  clear H
  have H := H1
  clear H1
  replace H := Option.bind_eq_some_iff.mp H
  obtain ⟨t968, A40, H⟩ := H
  replace H : ((arith_Mul.f k a0 4607182418800017408).bind fun t969 => (if t969 = t968 then ((arith_Add.f k a0 a0).bind fun t970 => ((arith_Mul.f k a0 4611686018427387904).bind fun t971 => (if t970 = t971 then ((arith_Mul.f k a0 13830554455654793216).bind fun t972 => ((tabardref3_Neg.f k a0).bind fun t973 => (if t972 = t973 then ((tabardref3_Kind.f k a0).bind fun t974 => (if t974 ≥ 3 then ((arith_Sub.f k a0 a0).bind fun t975 => (if t975 = 9221120237041090560 then ((arith_Add.f k a0 0).bind fun t976 => (some (t976 == t968))) else (none))) else ((arith_Sub.f k a0 a0).bind fun t977 => (if t977 = 0 then (if a0 = 9223372036854775808 then ((arith_Add.f k a0 9223372036854775808).bind fun t978 => (some (t978 == a0))) else ((arith_Add.f k a0 0).bind fun t979 => (if t979 = a0 then ((arith_Add.f k a0 9223372036854775808).bind fun t980 => (some (t980 == a0))) else (none)))) else (none))))) else (none)))) else (none)))) else (none))) = some r := H
  have A4 := zA A40
  clear A40
  replace H := Option.bind_eq_some_iff.mp H
  obtain ⟨t969, A50, H⟩ := H
  replace H : (if t969 = t968 then ((arith_Add.f k a0 a0).bind fun t970 => ((arith_Mul.f k a0 4611686018427387904).bind fun t971 => (if t970 = t971 then ((arith_Mul.f k a0 13830554455654793216).bind fun t972 => ((tabardref3_Neg.f k a0).bind fun t973 => (if t972 = t973 then ((tabardref3_Kind.f k a0).bind fun t974 => (if t974 ≥ 3 then ((arith_Sub.f k a0 a0).bind fun t975 => (if t975 = 9221120237041090560 then ((arith_Add.f k a0 0).bind fun t976 => (some (t976 == t968))) else (none))) else ((arith_Sub.f k a0 a0).bind fun t977 => (if t977 = 0 then (if a0 = 9223372036854775808 then ((arith_Add.f k a0 9223372036854775808).bind fun t978 => (some (t978 == a0))) else ((arith_Add.f k a0 0).bind fun t979 => (if t979 = a0 then ((arith_Add.f k a0 9223372036854775808).bind fun t980 => (some (t980 == a0))) else (none)))) else (none))))) else (none)))) else (none)))) else (none)) = some r := H
  have A5 := zA A50
  clear A50
  by_cases c6 : t969 = t968
  ·
   rw [if_pos c6] at H
   have c6b0 : (t969 == t968) = true := beq_iff_eq.mpr c6
   have c6b1 : (t969 != t968) = false := bne_eq_false_iff_eq.mpr c6
   clear c6
   replace H := Option.bind_eq_some_iff.mp H
   obtain ⟨t970, A70, H⟩ := H
   replace H : ((arith_Mul.f k a0 4611686018427387904).bind fun t971 => (if t970 = t971 then ((arith_Mul.f k a0 13830554455654793216).bind fun t972 => ((tabardref3_Neg.f k a0).bind fun t973 => (if t972 = t973 then ((tabardref3_Kind.f k a0).bind fun t974 => (if t974 ≥ 3 then ((arith_Sub.f k a0 a0).bind fun t975 => (if t975 = 9221120237041090560 then ((arith_Add.f k a0 0).bind fun t976 => (some (t976 == t968))) else (none))) else ((arith_Sub.f k a0 a0).bind fun t977 => (if t977 = 0 then (if a0 = 9223372036854775808 then ((arith_Add.f k a0 9223372036854775808).bind fun t978 => (some (t978 == a0))) else ((arith_Add.f k a0 0).bind fun t979 => (if t979 = a0 then ((arith_Add.f k a0 9223372036854775808).bind fun t980 => (some (t980 == a0))) else (none)))) else (none))))) else (none)))) else (none))) = some r := H
   have A7 := zA A70
   clear A70
   replace H := Option.bind_eq_some_iff.mp H
   obtain ⟨t971, A80, H⟩ := H
   replace H : (if t970 = t971 then ((arith_Mul.f k a0 13830554455654793216).bind fun t972 => ((tabardref3_Neg.f k a0).bind fun t973 => (if t972 = t973 then ((tabardref3_Kind.f k a0).bind fun t974 => (if t974 ≥ 3 then ((arith_Sub.f k a0 a0).bind fun t975 => (if t975 = 9221120237041090560 then ((arith_Add.f k a0 0).bind fun t976 => (some (t976 == t968))) else (none))) else ((arith_Sub.f k a0 a0).bind fun t977 => (if t977 = 0 then (if a0 = 9223372036854775808 then ((arith_Add.f k a0 9223372036854775808).bind fun t978 => (some (t978 == a0))) else ((arith_Add.f k a0 0).bind fun t979 => (if t979 = a0 then ((arith_Add.f k a0 9223372036854775808).bind fun t980 => (some (t980 == a0))) else (none)))) else (none))))) else (none)))) else (none)) = some r := H
   have A8 := zA A80
   clear A80
   by_cases c9 : t970 = t971
   ·
    rw [if_pos c9] at H
    have c9b0 : (t970 == t971) = true := beq_iff_eq.mpr c9
    have c9b1 : (t970 != t971) = false := bne_eq_false_iff_eq.mpr c9
    clear c9
    replace H := Option.bind_eq_some_iff.mp H
    obtain ⟨t972, A100, H⟩ := H
    replace H : ((tabardref3_Neg.f k a0).bind fun t973 => (if t972 = t973 then ((tabardref3_Kind.f k a0).bind fun t974 => (if t974 ≥ 3 then ((arith_Sub.f k a0 a0).bind fun t975 => (if t975 = 9221120237041090560 then ((arith_Add.f k a0 0).bind fun t976 => (some (t976 == t968))) else (none))) else ((arith_Sub.f k a0 a0).bind fun t977 => (if t977 = 0 then (if a0 = 9223372036854775808 then ((arith_Add.f k a0 9223372036854775808).bind fun t978 => (some (t978 == a0))) else ((arith_Add.f k a0 0).bind fun t979 => (if t979 = a0 then ((arith_Add.f k a0 9223372036854775808).bind fun t980 => (some (t980 == a0))) else (none)))) else (none))))) else (none))) = some r := H
    have A10 := zA A100
    clear A100
    replace H := Option.bind_eq_some_iff.mp H
    obtain ⟨t973, A110, H⟩ := H
    replace H : (if t972 = t973 then ((tabardref3_Kind.f k a0).bind fun t974 => (if t974 ≥ 3 then ((arith_Sub.f k a0 a0).bind fun t975 => (if t975 = 9221120237041090560 then ((arith_Add.f k a0 0).bind fun t976 => (some (t976 == t968))) else (none))) else ((arith_Sub.f k a0 a0).bind fun t977 => (if t977 = 0 then (if a0 = 9223372036854775808 then ((arith_Add.f k a0 9223372036854775808).bind fun t978 => (some (t978 == a0))) else ((arith_Add.f k a0 0).bind fun t979 => (if t979 = a0 then ((arith_Add.f k a0 9223372036854775808).bind fun t980 => (some (t980 == a0))) else (none)))) else (none))))) else (none)) = some r := H
    have A11 := zA A110
    clear A110
    by_cases c12 : t972 = t973
    ·
     rw [if_pos c12] at H
     have c12b0 : (t972 == t973) = true := beq_iff_eq.mpr c12
     have c12b1 : (t972 != t973) = false := bne_eq_false_iff_eq.mpr c12
     clear c12
     replace H := Option.bind_eq_some_iff.mp H
     obtain ⟨t974, A130, H⟩ := H
     replace H : (if t974 ≥ 3 then ((arith_Sub.f k a0 a0).bind fun t975 => (if t975 = 9221120237041090560 then ((arith_Add.f k a0 0).bind fun t976 => (some (t976 == t968))) else (none))) else ((arith_Sub.f k a0 a0).bind fun t977 => (if t977 = 0 then (if a0 = 9223372036854775808 then ((arith_Add.f k a0 9223372036854775808).bind fun t978 => (some (t978 == a0))) else ((arith_Add.f k a0 0).bind fun t979 => (if t979 = a0 then ((arith_Add.f k a0 9223372036854775808).bind fun t980 => (some (t980 == a0))) else (none)))) else (none)))) = some r := H
     have A13 := zA A130
     clear A130
     by_cases c14 : t974 ≥ 3
     ·
      rw [if_pos c14] at H
      have c14b0 : decide (3 ≤ t974) = true := decide_eq_true c14
      clear c14
      replace H := Option.bind_eq_some_iff.mp H
      obtain ⟨t975, A150, H⟩ := H
      replace H : (if t975 = 9221120237041090560 then ((arith_Add.f k a0 0).bind fun t976 => (some (t976 == t968))) else (none)) = some r := H
      have A15 := zA A150
      clear A150
      by_cases c16 : t975 = 9221120237041090560
      ·
       rw [if_pos c16] at H
       have c16b0 : (t975 == 9221120237041090560) = true := beq_iff_eq.mpr c16
       have c16b1 : (t975 != 9221120237041090560) = false := bne_eq_false_iff_eq.mpr c16
       clear c16
       replace H := Option.bind_eq_some_iff.mp H
       obtain ⟨t976, A170, H⟩ := H
       replace H : (some (t976 == t968)) = some r := H
       have A17 := zA A170
       clear A170
       obtain rfl := Option.some.inj H
       go_enter Try.func18, Try.ntmps18
       go_wp2_with (first | ((with_reducible refine zoq (f := 63) rfl ?_); refine goesL_ (some 5) rfl rfl Try.func63 (by kernel_rfl) rfl #[] rfl (by (try simp only [List.map_toArray, List.map_cons, List.map_nil]); first | done | rfl | (simp only [List.length_drop, List.length_take]; rfl)) ?_; (with_reducible refine (tabardlaw4_shown.calls k  true _ A2.out).mono ?_); rintro e w18 ⟨rfl, hb⟩; refine ⟨_, rfl, ?_⟩; have n0_ := zA (zeq (by repeat (first | (with_reducible first | exact HB.out | apply zaq | apply zbq | apply zcq) | exact HB.out)) hb); clear HB; have HB := n0_; clear n0_; (try clear hb); (try clear hb2); (try clear hk); (try clear hi)) | ((with_reducible refine zoq (f := 31) rfl ?_); refine goesL_ (some 9) rfl rfl Try.func31 (by kernel_rfl) rfl #[.int .u64 a0] rfl (by (try simp only [List.map_toArray, List.map_cons, List.map_nil]); first | done | rfl | (simp only [List.length_drop, List.length_take]; rfl)) ?_; (with_reducible refine (tabardref3_Right.calls k a0 t968 _ A4.out).mono ?_); rintro e w' ⟨rfl, ⟨nd, rfl⟩⟩; refine ⟨_, rfl, ?_⟩) | ((with_reducible refine zoq (f := 68) rfl ?_); refine goesL_ (some 11) rfl rfl Try.func68 (by kernel_rfl) rfl #[.int .u64 a0, .int .u64 4607182418800017408] rfl (by (try simp only [List.map_toArray, List.map_cons, List.map_nil]); first | done | rfl | (simp only [List.length_drop, List.length_take]; rfl)) ?_; (with_reducible refine (arith_Mul.calls k a0 4607182418800017408 t969 _ A5.out).mono ?_); rintro e w19 ⟨rfl, hb⟩; refine ⟨_, rfl, ?_⟩; have n0_ := zA (zeq (by repeat (first | (with_reducible first | exact HB.out | apply zaq | apply zbq | apply zcq) | exact HB.out)) hb); clear HB; have HB := n0_; clear n0_; (try clear hb); (try clear hb2); (try clear hk); (try clear hi)) | (go_at_call 64; (with_reducible refine (arith_Add.calls k a0 a0 t970 _ A7.out).mono ?_); rintro e w20 ⟨rfl, hb⟩; have n0_ := zA (zeq (by repeat (first | (with_reducible first | exact HB.out | apply zaq | apply zbq | apply zcq) | exact HB.out)) hb); clear HB; have HB := n0_; clear n0_; (try clear hb); (try clear hb2); (try clear hk); (try clear hi)) | (go_at_call 68; (with_reducible refine (arith_Mul.calls k a0 4611686018427387904 t971 _ A8.out).mono ?_); rintro e w21 ⟨rfl, hb⟩; have n0_ := zA (zeq (by repeat (first | (with_reducible first | exact HB.out | apply zaq | apply zbq | apply zcq) | exact HB.out)) hb); clear HB; have HB := n0_; clear n0_; (try clear hb); (try clear hb2); (try clear hk); (try clear hi)) | (go_at_call 68; (with_reducible refine (arith_Mul.calls k a0 13830554455654793216 t972 _ A10.out).mono ?_); rintro e w22 ⟨rfl, hb⟩; have n0_ := zA (zeq (by repeat (first | (with_reducible first | exact HB.out | apply zaq | apply zbq | apply zcq) | exact HB.out)) hb); clear HB; have HB := n0_; clear n0_; (try clear hb); (try clear hb2); (try clear hk); (try clear hi)) | (go_at_call 33; (with_reducible refine (tabardref3_Neg.calls k a0 t973 _ A11.out).mono ?_); rintro e w' ⟨rfl, ⟨nd, rfl⟩⟩) | ((with_reducible refine zoq (f := 29) rfl ?_); refine goesL_ (some 30) rfl rfl Try.func29 (by kernel_rfl) rfl #[.int .u64 a0] rfl (by (try simp only [List.map_toArray, List.map_cons, List.map_nil]); first | done | rfl | (simp only [List.length_drop, List.length_take]; rfl)) ?_; (with_reducible refine (tabardref3_Kind.calls k a0 t974 _ A13.out).mono ?_); rintro e w' ⟨rfl, ⟨nd, rfl⟩⟩; refine ⟨_, rfl, ?_⟩) | ((with_reducible refine zoq (f := 66) rfl ?_); refine goesL_ (some 34) rfl rfl Try.func66 (by kernel_rfl) rfl #[.int .u64 a0, .int .u64 a0] rfl (by (try simp only [List.map_toArray, List.map_cons, List.map_nil]); first | done | rfl | (simp only [List.length_drop, List.length_take]; rfl)) ?_; (with_reducible refine (arith_Sub.calls k a0 a0 t975 _ A15.out).mono ?_); rintro e w23 ⟨rfl, hb⟩; refine ⟨_, rfl, ?_⟩; have n0_ := zA (zeq (by repeat (first | (with_reducible first | exact HB.out | apply zaq | apply zbq | apply zcq) | exact HB.out)) hb); clear HB; have HB := n0_; clear n0_; (try clear hb); (try clear hb2); (try clear hk); (try clear hi)) | (go_at_call 64; (with_reducible refine (arith_Add.calls k a0 0 t976 _ A17.out).mono ?_); rintro e w24 ⟨rfl, hb⟩; have n0_ := zA (zeq (by repeat (first | (with_reducible first | exact HB.out | apply zaq | apply zbq | apply zcq) | exact HB.out)) hb); clear HB; have HB := n0_; clear n0_; (try clear hb); (try clear hb2); (try clear hk); (try clear hi)))
       go_ret
       exact ⟨by first | rfl | (simp [errW_none, errW_some] <;> rfl) | (simp [*, errW_none, errW_some] <;> rfl), by repeat (first | (with_reducible first | exact HB.out | apply zaq | apply zbq | apply zcq) | exact HB.out)⟩
      ·
       rw [if_neg c16] at H
       exact absurd H (by simp)
     ·
      rw [if_neg c14] at H
      have c14b0 : decide (3 ≤ t974) = false := decide_eq_false c14
      clear c14
      replace H := Option.bind_eq_some_iff.mp H
      obtain ⟨t977, A250, H⟩ := H
      replace H : (if t977 = 0 then (if a0 = 9223372036854775808 then ((arith_Add.f k a0 9223372036854775808).bind fun t978 => (some (t978 == a0))) else ((arith_Add.f k a0 0).bind fun t979 => (if t979 = a0 then ((arith_Add.f k a0 9223372036854775808).bind fun t980 => (some (t980 == a0))) else (none)))) else (none)) = some r := H
      have A25 := zA A250
      clear A250
      by_cases c26 : t977 = 0
      ·
       rw [if_pos c26] at H
       have c26b0 : (t977 == 0) = true := beq_iff_eq.mpr c26
       have c26b1 : (t977 != 0) = false := bne_eq_false_iff_eq.mpr c26
       clear c26
       by_cases c27 : a0 = 9223372036854775808
       ·
        rw [if_pos c27] at H
        have c27b0 : (a0 == 9223372036854775808) = true := beq_iff_eq.mpr c27
        have c27b1 : (a0 != 9223372036854775808) = false := bne_eq_false_iff_eq.mpr c27
        clear c27
        replace H := Option.bind_eq_some_iff.mp H
        obtain ⟨t978, A280, H⟩ := H
        replace H : (some (t978 == a0)) = some r := H
        have A28 := zA A280
        clear A280
        obtain rfl := Option.some.inj H
        go_enter Try.func18, Try.ntmps18
        go_wp2_with (first | ((with_reducible refine zoq (f := 63) rfl ?_); refine goesL_ (some 5) rfl rfl Try.func63 (by kernel_rfl) rfl #[] rfl (by (try simp only [List.map_toArray, List.map_cons, List.map_nil]); first | done | rfl | (simp only [List.length_drop, List.length_take]; rfl)) ?_; (with_reducible refine (tabardlaw4_shown.calls k  true _ A2.out).mono ?_); rintro e w29 ⟨rfl, hb⟩; refine ⟨_, rfl, ?_⟩; have n0_ := zA (zeq (by repeat (first | (with_reducible first | exact HB.out | apply zaq | apply zbq | apply zcq) | exact HB.out)) hb); clear HB; have HB := n0_; clear n0_; (try clear hb); (try clear hb2); (try clear hk); (try clear hi)) | ((with_reducible refine zoq (f := 31) rfl ?_); refine goesL_ (some 9) rfl rfl Try.func31 (by kernel_rfl) rfl #[.int .u64 a0] rfl (by (try simp only [List.map_toArray, List.map_cons, List.map_nil]); first | done | rfl | (simp only [List.length_drop, List.length_take]; rfl)) ?_; (with_reducible refine (tabardref3_Right.calls k a0 t968 _ A4.out).mono ?_); rintro e w' ⟨rfl, ⟨nd, rfl⟩⟩; refine ⟨_, rfl, ?_⟩) | ((with_reducible refine zoq (f := 68) rfl ?_); refine goesL_ (some 11) rfl rfl Try.func68 (by kernel_rfl) rfl #[.int .u64 a0, .int .u64 4607182418800017408] rfl (by (try simp only [List.map_toArray, List.map_cons, List.map_nil]); first | done | rfl | (simp only [List.length_drop, List.length_take]; rfl)) ?_; (with_reducible refine (arith_Mul.calls k a0 4607182418800017408 t969 _ A5.out).mono ?_); rintro e w30 ⟨rfl, hb⟩; refine ⟨_, rfl, ?_⟩; have n0_ := zA (zeq (by repeat (first | (with_reducible first | exact HB.out | apply zaq | apply zbq | apply zcq) | exact HB.out)) hb); clear HB; have HB := n0_; clear n0_; (try clear hb); (try clear hb2); (try clear hk); (try clear hi)) | (go_at_call 64; (with_reducible refine (arith_Add.calls k a0 a0 t970 _ A7.out).mono ?_); rintro e w31 ⟨rfl, hb⟩; have n0_ := zA (zeq (by repeat (first | (with_reducible first | exact HB.out | apply zaq | apply zbq | apply zcq) | exact HB.out)) hb); clear HB; have HB := n0_; clear n0_; (try clear hb); (try clear hb2); (try clear hk); (try clear hi)) | (go_at_call 68; (with_reducible refine (arith_Mul.calls k a0 4611686018427387904 t971 _ A8.out).mono ?_); rintro e w32 ⟨rfl, hb⟩; have n0_ := zA (zeq (by repeat (first | (with_reducible first | exact HB.out | apply zaq | apply zbq | apply zcq) | exact HB.out)) hb); clear HB; have HB := n0_; clear n0_; (try clear hb); (try clear hb2); (try clear hk); (try clear hi)) | (go_at_call 68; (with_reducible refine (arith_Mul.calls k a0 13830554455654793216 t972 _ A10.out).mono ?_); rintro e w33 ⟨rfl, hb⟩; have n0_ := zA (zeq (by repeat (first | (with_reducible first | exact HB.out | apply zaq | apply zbq | apply zcq) | exact HB.out)) hb); clear HB; have HB := n0_; clear n0_; (try clear hb); (try clear hb2); (try clear hk); (try clear hi)) | (go_at_call 33; (with_reducible refine (tabardref3_Neg.calls k a0 t973 _ A11.out).mono ?_); rintro e w' ⟨rfl, ⟨nd, rfl⟩⟩) | ((with_reducible refine zoq (f := 29) rfl ?_); refine goesL_ (some 30) rfl rfl Try.func29 (by kernel_rfl) rfl #[.int .u64 a0] rfl (by (try simp only [List.map_toArray, List.map_cons, List.map_nil]); first | done | rfl | (simp only [List.length_drop, List.length_take]; rfl)) ?_; (with_reducible refine (tabardref3_Kind.calls k a0 t974 _ A13.out).mono ?_); rintro e w' ⟨rfl, ⟨nd, rfl⟩⟩; refine ⟨_, rfl, ?_⟩) | ((with_reducible refine zoq (f := 66) rfl ?_); refine goesL_ (some 44) rfl rfl Try.func66 (by kernel_rfl) rfl #[.int .u64 a0, .int .u64 a0] rfl (by (try simp only [List.map_toArray, List.map_cons, List.map_nil]); first | done | rfl | (simp only [List.length_drop, List.length_take]; rfl)) ?_; (with_reducible refine (arith_Sub.calls k a0 a0 t977 _ A25.out).mono ?_); rintro e w34 ⟨rfl, hb⟩; refine ⟨_, rfl, ?_⟩; have n0_ := zA (zeq (by repeat (first | (with_reducible first | exact HB.out | apply zaq | apply zbq | apply zcq) | exact HB.out)) hb); clear HB; have HB := n0_; clear n0_; (try clear hb); (try clear hb2); (try clear hk); (try clear hi)) | (go_at_call 64; (with_reducible refine (arith_Add.calls k a0 9223372036854775808 t978 _ A28.out).mono ?_); rintro e w35 ⟨rfl, hb⟩; have n0_ := zA (zeq (by repeat (first | (with_reducible first | exact HB.out | apply zaq | apply zbq | apply zcq) | exact HB.out)) hb); clear HB; have HB := n0_; clear n0_; (try clear hb); (try clear hb2); (try clear hk); (try clear hi)))
        go_ret
        exact ⟨by first | rfl | (simp [errW_none, errW_some] <;> rfl) | (simp [*, errW_none, errW_some] <;> rfl), by repeat (first | (with_reducible first | exact HB.out | apply zaq | apply zbq | apply zcq) | exact HB.out)⟩
       ·
        rw [if_neg c27] at H
        have c27b0 : (a0 == 9223372036854775808) = false := beq_eq_false_iff_ne.mpr c27
        have c27b1 : (a0 != 9223372036854775808) = true := bne_iff_ne.mpr c27
        replace H := Option.bind_eq_some_iff.mp H
        obtain ⟨t979, A360, H⟩ := H
        replace H : (if t979 = a0 then ((arith_Add.f k a0 9223372036854775808).bind fun t980 => (some (t980 == a0))) else (none)) = some r := H
        have A36 := zA A360
        clear A360
        by_cases c37 : t979 = a0
        ·
         rw [if_pos c37] at H
         have c37b0 : (t979 == a0) = true := beq_iff_eq.mpr c37
         have c37b1 : (t979 != a0) = false := bne_eq_false_iff_eq.mpr c37
         clear c37
         replace H := Option.bind_eq_some_iff.mp H
         obtain ⟨t980, A380, H⟩ := H
         replace H : (some (t980 == a0)) = some r := H
         have A38 := zA A380
         clear A380
         obtain rfl := Option.some.inj H
         go_enter Try.func18, Try.ntmps18
         go_wp2_with (first | ((with_reducible refine zoq (f := 63) rfl ?_); refine goesL_ (some 5) rfl rfl Try.func63 (by kernel_rfl) rfl #[] rfl (by (try simp only [List.map_toArray, List.map_cons, List.map_nil]); first | done | rfl | (simp only [List.length_drop, List.length_take]; rfl)) ?_; (with_reducible refine (tabardlaw4_shown.calls k  true _ A2.out).mono ?_); rintro e w39 ⟨rfl, hb⟩; refine ⟨_, rfl, ?_⟩; have n0_ := zA (zeq (by repeat (first | (with_reducible first | exact HB.out | apply zaq | apply zbq | apply zcq) | exact HB.out)) hb); clear HB; have HB := n0_; clear n0_; (try clear hb); (try clear hb2); (try clear hk); (try clear hi)) | ((with_reducible refine zoq (f := 31) rfl ?_); refine goesL_ (some 9) rfl rfl Try.func31 (by kernel_rfl) rfl #[.int .u64 a0] rfl (by (try simp only [List.map_toArray, List.map_cons, List.map_nil]); first | done | rfl | (simp only [List.length_drop, List.length_take]; rfl)) ?_; (with_reducible refine (tabardref3_Right.calls k a0 t968 _ A4.out).mono ?_); rintro e w' ⟨rfl, ⟨nd, rfl⟩⟩; refine ⟨_, rfl, ?_⟩) | ((with_reducible refine zoq (f := 68) rfl ?_); refine goesL_ (some 11) rfl rfl Try.func68 (by kernel_rfl) rfl #[.int .u64 a0, .int .u64 4607182418800017408] rfl (by (try simp only [List.map_toArray, List.map_cons, List.map_nil]); first | done | rfl | (simp only [List.length_drop, List.length_take]; rfl)) ?_; (with_reducible refine (arith_Mul.calls k a0 4607182418800017408 t969 _ A5.out).mono ?_); rintro e w40 ⟨rfl, hb⟩; refine ⟨_, rfl, ?_⟩; have n0_ := zA (zeq (by repeat (first | (with_reducible first | exact HB.out | apply zaq | apply zbq | apply zcq) | exact HB.out)) hb); clear HB; have HB := n0_; clear n0_; (try clear hb); (try clear hb2); (try clear hk); (try clear hi)) | (go_at_call 64; (with_reducible refine (arith_Add.calls k a0 a0 t970 _ A7.out).mono ?_); rintro e w41 ⟨rfl, hb⟩; have n0_ := zA (zeq (by repeat (first | (with_reducible first | exact HB.out | apply zaq | apply zbq | apply zcq) | exact HB.out)) hb); clear HB; have HB := n0_; clear n0_; (try clear hb); (try clear hb2); (try clear hk); (try clear hi)) | (go_at_call 68; (with_reducible refine (arith_Mul.calls k a0 4611686018427387904 t971 _ A8.out).mono ?_); rintro e w42 ⟨rfl, hb⟩; have n0_ := zA (zeq (by repeat (first | (with_reducible first | exact HB.out | apply zaq | apply zbq | apply zcq) | exact HB.out)) hb); clear HB; have HB := n0_; clear n0_; (try clear hb); (try clear hb2); (try clear hk); (try clear hi)) | (go_at_call 68; (with_reducible refine (arith_Mul.calls k a0 13830554455654793216 t972 _ A10.out).mono ?_); rintro e w43 ⟨rfl, hb⟩; have n0_ := zA (zeq (by repeat (first | (with_reducible first | exact HB.out | apply zaq | apply zbq | apply zcq) | exact HB.out)) hb); clear HB; have HB := n0_; clear n0_; (try clear hb); (try clear hb2); (try clear hk); (try clear hi)) | (go_at_call 33; (with_reducible refine (tabardref3_Neg.calls k a0 t973 _ A11.out).mono ?_); rintro e w' ⟨rfl, ⟨nd, rfl⟩⟩) | ((with_reducible refine zoq (f := 29) rfl ?_); refine goesL_ (some 30) rfl rfl Try.func29 (by kernel_rfl) rfl #[.int .u64 a0] rfl (by (try simp only [List.map_toArray, List.map_cons, List.map_nil]); first | done | rfl | (simp only [List.length_drop, List.length_take]; rfl)) ?_; (with_reducible refine (tabardref3_Kind.calls k a0 t974 _ A13.out).mono ?_); rintro e w' ⟨rfl, ⟨nd, rfl⟩⟩; refine ⟨_, rfl, ?_⟩) | ((with_reducible refine zoq (f := 66) rfl ?_); refine goesL_ (some 44) rfl rfl Try.func66 (by kernel_rfl) rfl #[.int .u64 a0, .int .u64 a0] rfl (by (try simp only [List.map_toArray, List.map_cons, List.map_nil]); first | done | rfl | (simp only [List.length_drop, List.length_take]; rfl)) ?_; (with_reducible refine (arith_Sub.calls k a0 a0 t977 _ A25.out).mono ?_); rintro e w44 ⟨rfl, hb⟩; refine ⟨_, rfl, ?_⟩; have n0_ := zA (zeq (by repeat (first | (with_reducible first | exact HB.out | apply zaq | apply zbq | apply zcq) | exact HB.out)) hb); clear HB; have HB := n0_; clear n0_; (try clear hb); (try clear hb2); (try clear hk); (try clear hi)) | (go_at_call 64; (with_reducible refine (arith_Add.calls k a0 0 t979 _ A36.out).mono ?_); rintro e w45 ⟨rfl, hb⟩; have n0_ := zA (zeq (by repeat (first | (with_reducible first | exact HB.out | apply zaq | apply zbq | apply zcq) | exact HB.out)) hb); clear HB; have HB := n0_; clear n0_; (try clear hb); (try clear hb2); (try clear hk); (try clear hi)) | (go_at_call 64; (with_reducible refine (arith_Add.calls k a0 9223372036854775808 t980 _ A38.out).mono ?_); rintro e w46 ⟨rfl, hb⟩; have n0_ := zA (zeq (by repeat (first | (with_reducible first | exact HB.out | apply zaq | apply zbq | apply zcq) | exact HB.out)) hb); clear HB; have HB := n0_; clear n0_; (try clear hb); (try clear hb2); (try clear hk); (try clear hi)))
         go_ret
         exact ⟨by first | rfl | (simp [errW_none, errW_some] <;> rfl) | (simp [*, errW_none, errW_some] <;> rfl), by repeat (first | (with_reducible first | exact HB.out | apply zaq | apply zbq | apply zcq) | exact HB.out)⟩
        ·
         rw [if_neg c37] at H
         exact absurd H (by simp)
      ·
       rw [if_neg c26] at H
       exact absurd H (by simp)
    ·
     rw [if_neg c12] at H
     exact absurd H (by simp)
   ·
    rw [if_neg c9] at H
    exact absurd H (by simp)
  ·
   rw [if_neg c6] at H
   exact absurd H (by simp)
 ·
  replace c3 := Bool.eq_false_iff.mpr c3
  subst c3
  have H1 : (none) = some r := by rw [if_neg (show ¬ (false = true) by decide)] at H; exact H
  clear H
  have H := H1
  clear H1
  exact absurd H (by simp)

/-- THE ONE PURE STATEMENT of tabardlaw4_ArithPlain: yours. -/
def tabardlaw4_ArithPlain.Pure : Prop := ∀ (a0 : Int), (Lit.int .u64 a0).wf = true → ∃ k, tabardlaw4_ArithPlain.f k a0 = some true
theorem tabardlaw4_ArithPlain.walk (P : tabardlaw4_ArithPlain.Pure) (a0 : Int) (w : World) (w0 : (Lit.int .u64 a0).wf = true) :
  Calls Try.prog 18 #[.int .u64 a0] w fun e w' => e = .returned (.bool true) ∧ Below w.heap.size w w' := by
 obtain ⟨k, h⟩ := P a0 w0
 refine (tabardlaw4_ArithPlain.calls k a0 true w h).mono ?_
 rintro e w' ⟨rfl, hd⟩
 exact ⟨rfl, hd⟩

end Go.Proofs.Ytbejjlecpcphoaa.P
