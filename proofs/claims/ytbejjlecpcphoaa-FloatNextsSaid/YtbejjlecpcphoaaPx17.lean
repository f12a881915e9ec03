-- Written by a program of this session's (a turned print), not by hand.
import Derived.Test.YtbejjlecpcphoaaPx0
import Derived.Test.YtbejjlecpcphoaaPx8
import Derived.Test.YtbejjlecpcphoaaPx9
import Derived.Test.YtbejjlecpcphoaaPx10
namespace Go.Proofs.Ytbejjlecpcphoaa.P
open Go.RowKit Go.Proofs.YtbejjlecpcphoaaW.PrintWords Go.Proofs.YtbejjlecpcphoaaW.PrintLast Go.Proofs.YtbejjlecpcphoaaW.PrintMore
attribute [local go_sem] max2_int min2_int max_two min_two max_three min_three max_four min_four   -- for this text's walks alone
set_option linter.unusedVariables false
set_option linter.unusedSimpArgs false

/-! ### tabardlaw3_FloatNexts: function 4 -/
def tabardlaw3_FloatNexts.f (k : Nat) (a0 : Int) : Option (Bool) := (tabardlaw3_shown.f k).bind fun t227 => (if t227 = true then ((float_Kind.f k a0).bind fun t228 => (if t228 = 4 then ((float_Next.f k a0).bind fun t229 => (if t229 = 9221120237041090560 then ((float_Prev.f k a0).bind fun t230 => (some (t230 == 9221120237041090560))) else (none))) else ((float_Next.f k a0).bind fun t231 => ((float_Kind.f k a0).bind fun t232 => (if t232 = 0 then (if t231 = 1 then ((float_Prev.f k a0).bind fun t233 => (some (t233 == 9223372036854775809))) else (none)) else (if a0 = 9218868437227405312 then (if t231 = a0 then ((float_Prev.f k a0).bind fun t234 => (some (t234 == 9218868437227405311))) else (none)) else (if t231 = 9223372036854775808 then (some (a0 == 9223372036854775809)) else ((float_Split.f k a0).bind fun bt235 => ((float_Kind.f k a0).bind fun t238 => (if t238 = 3 then ((float_Prev.f k t231).bind fun t239 => (if t239 = a0 then (if a0 = 18442240474082181120 then (some true) else (some (a0 == 9218868437227405311))) else (none))) else ((float_Kind.f k t231).bind fun t240 => (if t240 = 3 then ((float_Prev.f k t231).bind fun t241 => (if t241 = a0 then (if a0 = 18442240474082181120 then (some true) else (some (a0 == 9218868437227405311))) else (none))) else (if bt235.1 = true then ((float_Prev.f k t231).bind fun t242 => (if t242 = a0 then ((float_Join.f k true 0 (IntKind.u64.wrap ((IntKind.u64.wrap (4 * bt235.2.1)) - 1)) (wrap64 (bt235.2.2 - 2)) true).bind fun t243 => (if t243 = a0 then (some (decide (t231 < a0))) else (none))) else (none))) else ((float_Prev.f k t231).bind fun t244 => (if t244 = a0 then ((float_Join.f k false 0 (IntKind.u64.wrap (bt235.2.1 + 1)) bt235.2.2 false).bind fun t245 => (some (t231 == t245))) else (none)))))))))))))))) else (none))
theorem tabardlaw3_FloatNexts.mono : ∀ a0 k, LeO (tabardlaw3_FloatNexts.f k a0) (tabardlaw3_FloatNexts.f (k + 1) a0) := by
 intro a0 k
 unfold tabardlaw3_FloatNexts.f
 repeat' first
   | (with_reducible exact float_Join.mono _ _ _ _ _ _)
   | (with_reducible exact float_Kind.mono _ _)
   | (with_reducible exact float_Next.mono _ _)
   | (with_reducible exact float_Prev.mono _ _)
   | (with_reducible exact float_Split.mono _ _)
   | (with_reducible exact tabardlaw3_shown.mono _)
   | (with_reducible exact LeO.refl _)
   | (with_reducible exact LeO.none _)
   | (with_reducible refine LeO.ite ?_ ?_)
   | (with_reducible refine LeO.bind ?_ (fun _ => ?_))
   | exact float_Join.mono _ _ _ _ _ _
   | exact float_Kind.mono _ _
   | exact float_Next.mono _ _
   | exact float_Prev.mono _ _
   | exact float_Split.mono _ _
   | exact tabardlaw3_shown.mono _
   | exact LeO.none _
   | refine LeO.ite ?_ ?_
   | refine LeO.bind ?_ (fun _ => ?_)
set_option maxHeartbeats 8000000 in
set_option maxRecDepth 100000 in
theorem tabardlaw3_FloatNexts.calls (k : Nat) (a0 : Int) (r : Bool) (w : World) (h : tabardlaw3_FloatNexts.f k a0 = some r) :
  Calls Try.prog 4 #[.int .u64 a0] w fun e w' => e = .returned (.bool r) ∧ Below w.heap.size w w' := by
 have hu24 := Try.underlying24
 have HB := zA (Below.refl w.heap.size w)
 have H : ((tabardlaw3_shown.f k).bind fun t227 => (if t227 = true then ((float_Kind.f k a0).bind fun t228 => (if t228 = 4 then ((float_Next.f k a0).bind fun t229 => (if t229 = 9221120237041090560 then ((float_Prev.f k a0).bind fun t230 => (some (t230 == 9221120237041090560))) else (none))) else ((float_Next.f k a0).bind fun t231 => ((float_Kind.f k a0).bind fun t232 => (if t232 = 0 then (if t231 = 1 then ((float_Prev.f k a0).bind fun t233 => (some (t233 == 9223372036854775809))) else (none)) else (if a0 = 9218868437227405312 then (if t231 = a0 then ((float_Prev.f k a0).bind fun t234 => (some (t234 == 9218868437227405311))) else (none)) else (if t231 = 9223372036854775808 then (some (a0 == 9223372036854775809)) else ((float_Split.f k a0).bind fun bt235 => ((float_Kind.f k a0).bind fun t238 => (if t238 = 3 then ((float_Prev.f k t231).bind fun t239 => (if t239 = a0 then (if a0 = 18442240474082181120 then (some true) else (some (a0 == 9218868437227405311))) else (none))) else ((float_Kind.f k t231).bind fun t240 => (if t240 = 3 then ((float_Prev.f k t231).bind fun t241 => (if t241 = a0 then (if a0 = 18442240474082181120 then (some true) else (some (a0 == 9218868437227405311))) else (none))) else (if bt235.1 = true then ((float_Prev.f k t231).bind fun t242 => (if t242 = a0 then ((float_Join.f k true 0 (IntKind.u64.wrap ((IntKind.u64.wrap (4 * bt235.2.1)) - 1)) (wrap64 (bt235.2.2 - 2)) true).bind fun t243 => (if t243 = a0 then (some (decide (t231 < a0))) else (none))) else (none))) else ((float_Prev.f k t231).bind fun t244 => (if t244 = a0 then ((float_Join.f k false 0 (IntKind.u64.wrap (bt235.2.1 + 1)) bt235.2.2 false).bind fun t245 => (some (t231 == t245))) else (none)))))))))))))))) else (none))) = some r := h
 clear h
 replace H := Option.bind_eq_some_iff.mp H
 obtain ⟨t227, A20, H⟩ := H
 replace H : (if t227 = true then ((float_Kind.f k a0).bind fun t228 => (if t228 = 4 then ((float_Next.f k a0).bind fun t229 => (if t229 = 9221120237041090560 then ((float_Prev.f k a0).bind fun t230 => (some (t230 == 9221120237041090560))) else (none))) else ((float_Next.f k a0).bind fun t231 => ((float_Kind.f k a0).bind fun t232 => (if t232 = 0 then (if t231 = 1 then ((float_Prev.f k a0).bind fun t233 => (some (t233 == 9223372036854775809))) else (none)) else (if a0 = 9218868437227405312 then (if t231 = a0 then ((float_Prev.f k a0).bind fun t234 => (some (t234 == 9218868437227405311))) else (none)) else (if t231 = 9223372036854775808 then (some (a0 == 9223372036854775809)) else ((float_Split.f k a0).bind fun bt235 => ((float_Kind.f k a0).bind fun t238 => (if t238 = 3 then ((float_Prev.f k t231).bind fun t239 => (if t239 = a0 then (if a0 = 18442240474082181120 then (some true) else (some (a0 == 9218868437227405311))) else (none))) else ((float_Kind.f k t231).bind fun t240 => (if t240 = 3 then ((float_Prev.f k t231).bind fun t241 => (if t241 = a0 then (if a0 = 18442240474082181120 then (some true) else (some (a0 == 9218868437227405311))) else (none))) else (if bt235.1 = true then ((float_Prev.f k t231).bind fun t242 => (if t242 = a0 then ((float_Join.f k true 0 (IntKind.u64.wrap ((IntKind.u64.wrap (4 * bt235.2.1)) - 1)) (wrap64 (bt235.2.2 - 2)) true).bind fun t243 => (if t243 = a0 then (some (decide (t231 < a0))) else (none))) else (none))) else ((float_Prev.f k t231).bind fun t244 => (if t244 = a0 then ((float_Join.f k false 0 (IntKind.u64.wrap (bt235.2.1 + 1)) bt235.2.2 false).bind fun t245 => (some (t231 == t245))) else (none)))))))))))))))) else (none)) = some r := H
 have A2 := zA A20
 clear A20
 by_cases c3 : t227 = true
 ·
  subst c3
  have H1 : ((float_Kind.f k a0).bind fun t228 => (if t228 = 4 then ((float_Next.f k a0).bind fun t229 => (if t229 = 9221120237041090560 then ((float_Prev.f k a0).bind fun t230 => (some (t230 == 9221120237041090560))) else (none))) else ((float_Next.f k a0).bind fun t231 => ((float_Kind.f k a0).bind fun t232 => (if t232 = 0 then (if t231 = 1 then ((float_Prev.f k a0).bind fun t233 => (some (t233 == 9223372036854775809))) else (none)) else (if a0 = 9218868437227405312 then (if t231 = a0 then ((float_Prev.f k a0).bind fun t234 => (some (t234 == 9218868437227405311))) else (none)) else (if t231 = 9223372036854775808 then (some (a0 == 9223372036854775809)) else ((float_Split.f k a0).bind fun bt235 => ((float_Kind.f k a0).bind fun t238 => (if t238 = 3 then ((float_Prev.f k t231).bind fun t239 => (if t239 = a0 then (if a0 = 18442240474082181120 then (some true) else (some (a0 == 9218868437227405311))) else (none))) else ((float_Kind.f k t231).bind fun t240 => (if t240 = 3 then ((float_Prev.f k t231).bind fun t241 => (if t241 = a0 then (if a0 = 18442240474082181120 then (some true) else (some (a0 == 9218868437227405311))) else (none))) else (if bt235.1 = true then ((float_Prev.f k t231).bind fun t242 => (if t242 = a0 then ((float_Join.f k true 0 (IntKind.u64.wrap ((IntKind.u64.wrap (4 * bt235.2.1)) - 1)) (wrap64 (bt235.2.2 - 2)) true).bind fun t243 => (if t243 = a0 then (some (decide (t231 < a0))) else (none))) else (none))) else ((float_Prev.f k t231).bind fun t244 => (if t244 = a0 then ((float_Join.f k false 0 (IntKind.u64.wrap (bt235.2.1 + 1)) bt235.2.2 false).bind fun t245 => (some (t231 == t245))) else (none)))))))))))))))) = some r := by rw [if_pos rfl] at H; exact H
  clear H
  have H := H1
  clear H1
  replace H := Option.bind_eq_some_iff.mp H
  obtain ⟨t228, A40, H⟩ := H
  replace H : (if t228 = 4 then ((float_Next.f k a0).bind fun t229 => (if t229 = 9221120237041090560 then ((float_Prev.f k a0).bind fun t230 => (some (t230 == 9221120237041090560))) else (none))) else ((float_Next.f k a0).bind fun t231 => ((float_Kind.f k a0).bind fun t232 => (if t232 = 0 then (if t231 = 1 then ((float_Prev.f k a0).bind fun t233 => (some (t233 == 9223372036854775809))) else (none)) else (if a0 = 9218868437227405312 then (if t231 = a0 then ((float_Prev.f k a0).bind fun t234 => (some (t234 == 9218868437227405311))) else (none)) else (if t231 = 9223372036854775808 then (some (a0 == 9223372036854775809)) else ((float_Split.f k a0).bind fun bt235 => ((float_Kind.f k a0).bind fun t238 => (if t238 = 3 then ((float_Prev.f k t231).bind fun t239 => (if t239 = a0 then (if a0 = 18442240474082181120 then (some true) else (some (a0 == 9218868437227405311))) else (none))) else ((float_Kind.f k t231).bind fun t240 => (if t240 = 3 then ((float_Prev.f k t231).bind fun t241 => (if t241 = a0 then (if a0 = 18442240474082181120 then (some true) else (some (a0 == 9218868437227405311))) else (none))) else (if bt235.1 = true then ((float_Prev.f k t231).bind fun t242 => (if t242 = a0 then ((float_Join.f k true 0 (IntKind.u64.wrap ((IntKind.u64.wrap (4 * bt235.2.1)) - 1)) (wrap64 (bt235.2.2 - 2)) true).bind fun t243 => (if t243 = a0 then (some (decide (t231 < a0))) else (none))) else (none))) else ((float_Prev.f k t231).bind fun t244 => (if t244 = a0 then ((float_Join.f k false 0 (IntKind.u64.wrap (bt235.2.1 + 1)) bt235.2.2 false).bind fun t245 => (some (t231 == t245))) else (none))))))))))))))) = some r := H
  have A4 := zA A40
  clear A40
  by_cases c5 : t228 = 4
  ·
   rw [if_pos c5] at H
   have c5b0 : (t228 == 4) = true := beq_iff_eq.mpr c5
   have c5b1 : (t228 != 4) = false := bne_eq_false_iff_eq.mpr c5
   clear c5
   replace H := Option.bind_eq_some_iff.mp H
   obtain ⟨t229, A60, H⟩ := H
   replace H : (if t229 = 9221120237041090560 then ((float_Prev.f k a0).bind fun t230 => (some (t230 == 9221120237041090560))) else (none)) = some r := H
   have A6 := zA A60
   clear A60
   by_cases c7 : t229 = 9221120237041090560
   ·
    rw [if_pos c7] at H
    have c7b0 : (t229 == 9221120237041090560) = true := beq_iff_eq.mpr c7
    have c7b1 : (t229 != 9221120237041090560) = false := bne_eq_false_iff_eq.mpr c7
    clear c7
    replace H := Option.bind_eq_some_iff.mp H
    obtain ⟨t230, A80, H⟩ := H
    replace H : (some (t230 == 9221120237041090560)) = some r := H
    have A8 := zA A80
    clear A80
    obtain rfl := Option.some.inj H
    go_enter Try.func4, Try.ntmps4
    go_wp2_with (first | ((with_reducible refine zoq (f := 19) rfl ?_); refine goesL_ (some 8) rfl rfl Try.func19 (by kernel_rfl) rfl #[] rfl (by (try simp only [List.map_toArray, List.map_cons, List.map_nil]); first | done | rfl | (simp only [List.length_drop, List.length_take]; rfl)) ?_; (with_reducible refine (tabardlaw3_shown.calls k  true _ A2.out).mono ?_); rintro e w9 ⟨rfl, hb⟩; refine ⟨_, rfl, ?_⟩; have n0_ := zA (zeq (by repeat (first | (with_reducible first | exact HB.out | apply zaq | apply zbq | apply zcq) | exact HB.out)) hb); clear HB; have HB := n0_; clear n0_; (try clear hb); (try clear hb2); (try clear hk); (try clear hi)) | ((with_reducible refine zoq (f := 23) rfl ?_); refine goesL_ (some 12) rfl rfl Try.func23 (by kernel_rfl) rfl #[.int .u64 a0] rfl (by (try simp only [List.map_toArray, List.map_cons, List.map_nil]); first | done | rfl | (simp only [List.length_drop, List.length_take]; rfl)) ?_; (with_reducible refine (float_Kind.calls k a0 t228 _ A4.out).mono ?_); rintro e w' ⟨rfl, ⟨nd, rfl⟩⟩; refine ⟨_, rfl, ?_⟩) | ((with_reducible refine zoq (f := 24) rfl ?_); refine goesL_ (some 15) rfl rfl Try.func24 (by kernel_rfl) rfl #[.int .u64 a0] rfl (by (try simp only [List.map_toArray, List.map_cons, List.map_nil]); first | done | rfl | (simp only [List.length_drop, List.length_take]; rfl)) ?_; (with_reducible refine (float_Next.calls k a0 t229 _ A6.out).mono ?_); rintro e w' ⟨rfl, ⟨nd, rfl⟩⟩; refine ⟨_, rfl, ?_⟩) | (go_at_call 25; (with_reducible refine (float_Prev.calls k a0 t230 _ A8.out).mono ?_); rintro e w' ⟨rfl, ⟨nd, rfl⟩⟩))
    go_ret
    exact ⟨by first | rfl | (simp [errW_none, errW_some] <;> rfl) | (simp [*, errW_none, errW_some] <;> rfl), by repeat (first | (with_reducible first | exact HB.out | apply zaq | apply zbq | apply zcq) | exact HB.out)⟩
   ·
    rw [if_neg c7] at H
    exact absurd H (by simp)
  ·
   rw [if_neg c5] at H
   have c5b0 : (t228 == 4) = false := beq_eq_false_iff_ne.mpr c5
   have c5b1 : (t228 != 4) = true := bne_iff_ne.mpr c5
   replace H := Option.bind_eq_some_iff.mp H
   obtain ⟨t231, A100, H⟩ := H
   replace H : ((float_Kind.f k a0).bind fun t232 => (if t232 = 0 then (if t231 = 1 then ((float_Prev.f k a0).bind fun t233 => (some (t233 == 9223372036854775809))) else (none)) else (if a0 = 9218868437227405312 then (if t231 = a0 then ((float_Prev.f k a0).bind fun t234 => (some (t234 == 9218868437227405311))) else (none)) else (if t231 = 9223372036854775808 then (some (a0 == 9223372036854775809)) else ((float_Split.f k a0).bind fun bt235 => ((float_Kind.f k a0).bind fun t238 => (if t238 = 3 then ((float_Prev.f k t231).bind fun t239 => (if t239 = a0 then (if a0 = 18442240474082181120 then (some true) else (some (a0 == 9218868437227405311))) else (none))) else ((float_Kind.f k t231).bind fun t240 => (if t240 = 3 then ((float_Prev.f k t231).bind fun t241 => (if t241 = a0 then (if a0 = 18442240474082181120 then (some true) else (some (a0 == 9218868437227405311))) else (none))) else (if bt235.1 = true then ((float_Prev.f k t231).bind fun t242 => (if t242 = a0 then ((float_Join.f k true 0 (IntKind.u64.wrap ((IntKind.u64.wrap (4 * bt235.2.1)) - 1)) (wrap64 (bt235.2.2 - 2)) true).bind fun t243 => (if t243 = a0 then (some (decide (t231 < a0))) else (none))) else (none))) else ((float_Prev.f k t231).bind fun t244 => (if t244 = a0 then ((float_Join.f k false 0 (IntKind.u64.wrap (bt235.2.1 + 1)) bt235.2.2 false).bind fun t245 => (some (t231 == t245))) else (none))))))))))))) = some r := H
   have A10 := zA A100
   clear A100
   replace H := Option.bind_eq_some_iff.mp H
   obtain ⟨t232, A110, H⟩ := H
   replace H : (if t232 = 0 then (if t231 = 1 then ((float_Prev.f k a0).bind fun t233 => (some (t233 == 9223372036854775809))) else (none)) else (if a0 = 9218868437227405312 then (if t231 = a0 then ((float_Prev.f k a0).bind fun t234 => (some (t234 == 9218868437227405311))) else (none)) else (if t231 = 9223372036854775808 then (some (a0 == 9223372036854775809)) else ((float_Split.f k a0).bind fun bt235 => ((float_Kind.f k a0).bind fun t238 => (if t238 = 3 then ((float_Prev.f k t231).bind fun t239 => (if t239 = a0 then (if a0 = 18442240474082181120 then (some true) else (some (a0 == 9218868437227405311))) else (none))) else ((float_Kind.f k t231).bind fun t240 => (if t240 = 3 then ((float_Prev.f k t231).bind fun t241 => (if t241 = a0 then (if a0 = 18442240474082181120 then (some true) else (some (a0 == 9218868437227405311))) else (none))) else (if bt235.1 = true then ((float_Prev.f k t231).bind fun t242 => (if t242 = a0 then ((float_Join.f k true 0 (IntKind.u64.wrap ((IntKind.u64.wrap (4 * bt235.2.1)) - 1)) (wrap64 (bt235.2.2 - 2)) true).bind fun t243 => (if t243 = a0 then (some (decide (t231 < a0))) else (none))) else (none))) else ((float_Prev.f k t231).bind fun t244 => (if t244 = a0 then ((float_Join.f k false 0 (IntKind.u64.wrap (bt235.2.1 + 1)) bt235.2.2 false).bind fun t245 => (some (t231 == t245))) else (none)))))))))))) = some r := H
   have A11 := zA A110
   clear A110
   by_cases c12 : t232 = 0
   ·
    rw [if_pos c12] at H
    have c12b0 : (t232 == 0) = true := beq_iff_eq.mpr c12
    have c12b1 : (t232 != 0) = false := bne_eq_false_iff_eq.mpr c12
    clear c12
    by_cases c13 : t231 = 1
    ·
     rw [if_pos c13] at H
     have c13b0 : (t231 == 1) = true := beq_iff_eq.mpr c13
     have c13b1 : (t231 != 1) = false := bne_eq_false_iff_eq.mpr c13
     clear c13
     replace H := Option.bind_eq_some_iff.mp H
     obtain ⟨t233, A140, H⟩ := H
     replace H : (some (t233 == 9223372036854775809)) = some r := H
     have A14 := zA A140
     clear A140
     obtain rfl := Option.some.inj H
     go_enter Try.func4, Try.ntmps4
     go_wp2_with (first | ((with_reducible refine zoq (f := 19) rfl ?_); refine goesL_ (some 8) rfl rfl Try.func19 (by kernel_rfl) rfl #[] rfl (by (try simp only [List.map_toArray, List.map_cons, List.map_nil]); first | done | rfl | (simp only [List.length_drop, List.length_take]; rfl)) ?_; (with_reducible refine (tabardlaw3_shown.calls k  true _ A2.out).mono ?_); rintro e w15 ⟨rfl, hb⟩; refine ⟨_, rfl, ?_⟩; have n0_ := zA (zeq (by repeat (first | (with_reducible first | exact HB.out | apply zaq | apply zbq | apply zcq) | exact HB.out)) hb); clear HB; have HB := n0_; clear n0_; (try clear hb); (try clear hb2); (try clear hk); (try clear hi)) | ((with_reducible refine zoq (f := 23) rfl ?_); refine goesL_ (some 12) rfl rfl Try.func23 (by kernel_rfl) rfl #[.int .u64 a0] rfl (by (try simp only [List.map_toArray, List.map_cons, List.map_nil]); first | done | rfl | (simp only [List.length_drop, List.length_take]; rfl)) ?_; (with_reducible refine (float_Kind.calls k a0 t228 _ A4.out).mono ?_); rintro e w' ⟨rfl, ⟨nd, rfl⟩⟩; refine ⟨_, rfl, ?_⟩) | ((with_reducible refine zoq (f := 24) rfl ?_); refine goesL_ (some 23) rfl rfl Try.func24 (by kernel_rfl) rfl #[.int .u64 a0] rfl (by (try simp only [List.map_toArray, List.map_cons, List.map_nil]); first | done | rfl | (simp only [List.length_drop, List.length_take]; rfl)) ?_; (with_reducible refine (float_Next.calls k a0 t231 _ A10.out).mono ?_); rintro e w' ⟨rfl, ⟨nd, rfl⟩⟩; refine ⟨_, rfl, ?_⟩) | ((with_reducible refine zoq (f := 23) rfl ?_); refine goesL_ (some 25) rfl rfl Try.func23 (by kernel_rfl) rfl #[.int .u64 a0] rfl (by (try simp only [List.map_toArray, List.map_cons, List.map_nil]); first | done | rfl | (simp only [List.length_drop, List.length_take]; rfl)) ?_; (with_reducible refine (float_Kind.calls k a0 t232 _ A11.out).mono ?_); rintro e w' ⟨rfl, ⟨nd, rfl⟩⟩; refine ⟨_, rfl, ?_⟩) | (go_at_call 25; (with_reducible refine (float_Prev.calls k a0 t233 _ A14.out).mono ?_); rintro e w' ⟨rfl, ⟨nd, rfl⟩⟩))
     go_ret
     exact ⟨by first | rfl | (simp [errW_none, errW_some] <;> rfl) | (simp [*, errW_none, errW_some] <;> rfl), by repeat (first | (with_reducible first | exact HB.out | apply zaq | apply zbq | apply zcq) | exact HB.out)⟩
    ·
     rw [if_neg c13] at H
     exact absurd H (by simp)
   ·
    rw [if_neg c12] at H
    have c12b0 : (t232 == 0) = false := beq_eq_false_iff_ne.mpr c12
    have c12b1 : (t232 != 0) = true := bne_iff_ne.mpr c12
    by_cases c16 : a0 = 9218868437227405312
    ·
     rw [if_pos c16] at H
     have c16b0 : (a0 == 9218868437227405312) = true := beq_iff_eq.mpr c16
     have c16b1 : (a0 != 9218868437227405312) = false := bne_eq_false_iff_eq.mpr c16
     clear c16
     by_cases c17 : t231 = a0
     ·
      rw [if_pos c17] at H
      have c17b0 : (t231 == a0) = true := beq_iff_eq.mpr c17
      have c17b1 : (t231 != a0) = false := bne_eq_false_iff_eq.mpr c17
      clear c17
      replace H := Option.bind_eq_some_iff.mp H
      obtain ⟨t234, A180, H⟩ := H
      replace H : (some (t234 == 9218868437227405311)) = some r := H
      have A18 := zA A180
      clear A180
      obtain rfl := Option.some.inj H
      go_enter Try.func4, Try.ntmps4
      go_wp2_with (first | ((with_reducible refine zoq (f := 19) rfl ?_); refine goesL_ (some 8) rfl rfl Try.func19 (by kernel_rfl) rfl #[] rfl (by (try simp only [List.map_toArray, List.map_cons, List.map_nil]); first | done | rfl | (simp only [List.length_drop, List.length_take]; rfl)) ?_; (with_reducible refine (tabardlaw3_shown.calls k  true _ A2.out).mono ?_); rintro e w19 ⟨rfl, hb⟩; refine ⟨_, rfl, ?_⟩; have n0_ := zA (zeq (by repeat (first | (with_reducible first | exact HB.out | apply zaq | apply zbq | apply zcq) | exact HB.out)) hb); clear HB; have HB := n0_; clear n0_; (try clear hb); (try clear hb2); (try clear hk); (try clear hi)) | ((with_reducible refine zoq (f := 23) rfl ?_); refine goesL_ (some 12) rfl rfl Try.func23 (by kernel_rfl) rfl #[.int .u64 a0] rfl (by (try simp only [List.map_toArray, List.map_cons, List.map_nil]); first | done | rfl | (simp only [List.length_drop, List.length_take]; rfl)) ?_; (with_reducible refine (float_Kind.calls k a0 t228 _ A4.out).mono ?_); rintro e w' ⟨rfl, ⟨nd, rfl⟩⟩; refine ⟨_, rfl, ?_⟩) | ((with_reducible refine zoq (f := 24) rfl ?_); refine goesL_ (some 23) rfl rfl Try.func24 (by kernel_rfl) rfl #[.int .u64 a0] rfl (by (try simp only [List.map_toArray, List.map_cons, List.map_nil]); first | done | rfl | (simp only [List.length_drop, List.length_take]; rfl)) ?_; (with_reducible refine (float_Next.calls k a0 t231 _ A10.out).mono ?_); rintro e w' ⟨rfl, ⟨nd, rfl⟩⟩; refine ⟨_, rfl, ?_⟩) | ((with_reducible refine zoq (f := 23) rfl ?_); refine goesL_ (some 25) rfl rfl Try.func23 (by kernel_rfl) rfl #[.int .u64 a0] rfl (by (try simp only [List.map_toArray, List.map_cons, List.map_nil]); first | done | rfl | (simp only [List.length_drop, List.length_take]; rfl)) ?_; (with_reducible refine (float_Kind.calls k a0 t232 _ A11.out).mono ?_); rintro e w' ⟨rfl, ⟨nd, rfl⟩⟩; refine ⟨_, rfl, ?_⟩) | (go_at_call 25; (with_reducible refine (float_Prev.calls k a0 t234 _ A18.out).mono ?_); rintro e w' ⟨rfl, ⟨nd, rfl⟩⟩))
      go_ret
      exact ⟨by first | rfl | (simp [errW_none, errW_some] <;> rfl) | (simp [*, errW_none, errW_some] <;> rfl), by repeat (first | (with_reducible first | exact HB.out | apply zaq | apply zbq | apply zcq) | exact HB.out)⟩
     ·
      rw [if_neg c17] at H
      exact absurd H (by simp)
    ·
     rw [if_neg c16] at H
     have c16b0 : (a0 == 9218868437227405312) = false := beq_eq_false_iff_ne.mpr c16
     have c16b1 : (a0 != 9218868437227405312) = true := bne_iff_ne.mpr c16
     by_cases c20 : t231 = 9223372036854775808
     ·
      rw [if_pos c20] at H
      have c20b0 : (t231 == 9223372036854775808) = true := beq_iff_eq.mpr c20
      have c20b1 : (t231 != 9223372036854775808) = false := bne_eq_false_iff_eq.mpr c20
      clear c20
      obtain rfl := Option.some.inj H
      go_enter Try.func4, Try.ntmps4
      go_wp2_with (first | ((with_reducible refine zoq (f := 19) rfl ?_); refine goesL_ (some 8) rfl rfl Try.func19 (by kernel_rfl) rfl #[] rfl (by (try simp only [List.map_toArray, List.map_cons, List.map_nil]); first | done | rfl | (simp only [List.length_drop, List.length_take]; rfl)) ?_; (with_reducible refine (tabardlaw3_shown.calls k  true _ A2.out).mono ?_); rintro e w21 ⟨rfl, hb⟩; refine ⟨_, rfl, ?_⟩; have n0_ := zA (zeq (by repeat (first | (with_reducible first | exact HB.out | apply zaq | apply zbq | apply zcq) | exact HB.out)) hb); clear HB; have HB := n0_; clear n0_; (try clear hb); (try clear hb2); (try clear hk); (try clear hi)) | ((with_reducible refine zoq (f := 23) rfl ?_); refine goesL_ (some 12) rfl rfl Try.func23 (by kernel_rfl) rfl #[.int .u64 a0] rfl (by (try simp only [List.map_toArray, List.map_cons, List.map_nil]); first | done | rfl | (simp only [List.length_drop, List.length_take]; rfl)) ?_; (with_reducible refine (float_Kind.calls k a0 t228 _ A4.out).mono ?_); rintro e w' ⟨rfl, ⟨nd, rfl⟩⟩; refine ⟨_, rfl, ?_⟩) | ((with_reducible refine zoq (f := 24) rfl ?_); refine goesL_ (some 23) rfl rfl Try.func24 (by kernel_rfl) rfl #[.int .u64 a0] rfl (by (try simp only [List.map_toArray, List.map_cons, List.map_nil]); first | done | rfl | (simp only [List.length_drop, List.length_take]; rfl)) ?_; (with_reducible refine (float_Next.calls k a0 t231 _ A10.out).mono ?_); rintro e w' ⟨rfl, ⟨nd, rfl⟩⟩; refine ⟨_, rfl, ?_⟩) | ((with_reducible refine zoq (f := 23) rfl ?_); refine goesL_ (some 25) rfl rfl Try.func23 (by kernel_rfl) rfl #[.int .u64 a0] rfl (by (try simp only [List.map_toArray, List.map_cons, List.map_nil]); first | done | rfl | (simp only [List.length_drop, List.length_take]; rfl)) ?_; (with_reducible refine (float_Kind.calls k a0 t232 _ A11.out).mono ?_); rintro e w' ⟨rfl, ⟨nd, rfl⟩⟩; refine ⟨_, rfl, ?_⟩))
      go_ret
      exact ⟨by first | rfl | (simp [errW_none, errW_some] <;> rfl) | (simp [*, errW_none, errW_some] <;> rfl), by repeat (first | (with_reducible first | exact HB.out | apply zaq | apply zbq | apply zcq) | exact HB.out)⟩
     ·
      rw [if_neg c20] at H
      have c20b0 : (t231 == 9223372036854775808) = false := beq_eq_false_iff_ne.mpr c20
      have c20b1 : (t231 != 9223372036854775808) = true := bne_iff_ne.mpr c20
      replace H := Option.bind_eq_some_iff.mp H
      obtain ⟨⟨t235, t236, t237⟩, A220, H⟩ := H
      replace H : ((float_Kind.f k a0).bind fun t238 => (if t238 = 3 then ((float_Prev.f k t231).bind fun t239 => (if t239 = a0 then (if a0 = 18442240474082181120 then (some true) else (some (a0 == 9218868437227405311))) else (none))) else ((float_Kind.f k t231).bind fun t240 => (if t240 = 3 then ((float_Prev.f k t231).bind fun t241 => (if t241 = a0 then (if a0 = 18442240474082181120 then (some true) else (some (a0 == 9218868437227405311))) else (none))) else (if t235 = true then ((float_Prev.f k t231).bind fun t242 => (if t242 = a0 then ((float_Join.f k true 0 (IntKind.u64.wrap ((IntKind.u64.wrap (4 * t236)) - 1)) (wrap64 (t237 - 2)) true).bind fun t243 => (if t243 = a0 then (some (decide (t231 < a0))) else (none))) else (none))) else ((float_Prev.f k t231).bind fun t244 => (if t244 = a0 then ((float_Join.f k false 0 (IntKind.u64.wrap (t236 + 1)) t237 false).bind fun t245 => (some (t231 == t245))) else (none)))))))) = some r := H
      have A22 := zA A220
      clear A220
      replace H := Option.bind_eq_some_iff.mp H
      obtain ⟨t238, A230, H⟩ := H
      replace H : (if t238 = 3 then ((float_Prev.f k t231).bind fun t239 => (if t239 = a0 then (if a0 = 18442240474082181120 then (some true) else (some (a0 == 9218868437227405311))) else (none))) else ((float_Kind.f k t231).bind fun t240 => (if t240 = 3 then ((float_Prev.f k t231).bind fun t241 => (if t241 = a0 then (if a0 = 18442240474082181120 then (some true) else (some (a0 == 9218868437227405311))) else (none))) else (if t235 = true then ((float_Prev.f k t231).bind fun t242 => (if t242 = a0 then ((float_Join.f k true 0 (IntKind.u64.wrap ((IntKind.u64.wrap (4 * t236)) - 1)) (wrap64 (t237 - 2)) true).bind fun t243 => (if t243 = a0 then (some (decide (t231 < a0))) else (none))) else (none))) else ((float_Prev.f k t231).bind fun t244 => (if t244 = a0 then ((float_Join.f k false 0 (IntKind.u64.wrap (t236 + 1)) t237 false).bind fun t245 => (some (t231 == t245))) else (none))))))) = some r := H
      have A23 := zA A230
      clear A230
      by_cases c24 : t238 = 3
      ·
       rw [if_pos c24] at H
       have c24b0 : (t238 == 3) = true := beq_iff_eq.mpr c24
       have c24b1 : (t238 != 3) = false := bne_eq_false_iff_eq.mpr c24
       clear c24
       replace H := Option.bind_eq_some_iff.mp H
       obtain ⟨t239, A250, H⟩ := H
       replace H : (if t239 = a0 then (if a0 = 18442240474082181120 then (some true) else (some (a0 == 9218868437227405311))) else (none)) = some r := H
       have A25 := zA A250
       clear A250
       by_cases c26 : t239 = a0
       ·
        rw [if_pos c26] at H
        have c26b0 : (t239 == a0) = true := beq_iff_eq.mpr c26
        have c26b1 : (t239 != a0) = false := bne_eq_false_iff_eq.mpr c26
        clear c26
        by_cases c27 : a0 = 18442240474082181120
        ·
         rw [if_pos c27] at H
         have c27b0 : (a0 == 18442240474082181120) = true := beq_iff_eq.mpr c27
         have c27b1 : (a0 != 18442240474082181120) = false := bne_eq_false_iff_eq.mpr c27
         clear c27
         obtain rfl := Option.some.inj H
         go_enter Try.func4, Try.ntmps4
         go_wp2_with (first | ((with_reducible refine zoq (f := 19) rfl ?_); refine goesL_ (some 8) rfl rfl Try.func19 (by kernel_rfl) rfl #[] rfl (by (try simp only [List.map_toArray, List.map_cons, List.map_nil]); first | done | rfl | (simp only [List.length_drop, List.length_take]; rfl)) ?_; (with_reducible refine (tabardlaw3_shown.calls k  true _ A2.out).mono ?_); rintro e w28 ⟨rfl, hb⟩; refine ⟨_, rfl, ?_⟩; have n0_ := zA (zeq (by repeat (first | (with_reducible first | exact HB.out | apply zaq | apply zbq | apply zcq) | exact HB.out)) hb); clear HB; have HB := n0_; clear n0_; (try clear hb); (try clear hb2); (try clear hk); (try clear hi)) | ((with_reducible refine zoq (f := 23) rfl ?_); refine goesL_ (some 12) rfl rfl Try.func23 (by kernel_rfl) rfl #[.int .u64 a0] rfl (by (try simp only [List.map_toArray, List.map_cons, List.map_nil]); first | done | rfl | (simp only [List.length_drop, List.length_take]; rfl)) ?_; (with_reducible refine (float_Kind.calls k a0 t228 _ A4.out).mono ?_); rintro e w' ⟨rfl, ⟨nd, rfl⟩⟩; refine ⟨_, rfl, ?_⟩) | ((with_reducible refine zoq (f := 24) rfl ?_); refine goesL_ (some 23) rfl rfl Try.func24 (by kernel_rfl) rfl #[.int .u64 a0] rfl (by (try simp only [List.map_toArray, List.map_cons, List.map_nil]); first | done | rfl | (simp only [List.length_drop, List.length_take]; rfl)) ?_; (with_reducible refine (float_Next.calls k a0 t231 _ A10.out).mono ?_); rintro e w' ⟨rfl, ⟨nd, rfl⟩⟩; refine ⟨_, rfl, ?_⟩) | ((with_reducible refine zoq (f := 23) rfl ?_); refine goesL_ (some 25) rfl rfl Try.func23 (by kernel_rfl) rfl #[.int .u64 a0] rfl (by (try simp only [List.map_toArray, List.map_cons, List.map_nil]); first | done | rfl | (simp only [List.length_drop, List.length_take]; rfl)) ?_; (with_reducible refine (float_Kind.calls k a0 t232 _ A11.out).mono ?_); rintro e w' ⟨rfl, ⟨nd, rfl⟩⟩; refine ⟨_, rfl, ?_⟩) | ((with_reducible refine zoq (f := 26) rfl ?_); refine goesL_ (some 50) rfl rfl Try.func26 (by kernel_rfl) rfl #[.int .u64 a0] rfl (by (try simp only [List.map_toArray, List.map_cons, List.map_nil]); first | done | rfl | (simp only [List.length_drop, List.length_take]; rfl)) ?_; (with_reducible refine (float_Split.calls k a0 t235 t236 t237 _ A22.out).mono ?_); rintro e w' ⟨rfl, ⟨nd, rfl⟩⟩; refine ⟨_, rfl, ?_⟩) | ((with_reducible refine zoq (f := 23) rfl ?_); refine goesL_ (some 55) rfl rfl Try.func23 (by kernel_rfl) rfl #[.int .u64 a0] rfl (by (try simp only [List.map_toArray, List.map_cons, List.map_nil]); first | done | rfl | (simp only [List.length_drop, List.length_take]; rfl)) ?_; (with_reducible refine (float_Kind.calls k a0 t238 _ A23.out).mono ?_); rintro e w' ⟨rfl, ⟨nd, rfl⟩⟩; refine ⟨_, rfl, ?_⟩) | ((with_reducible refine zoq (f := 25) rfl ?_); refine goesL_ (some 63) rfl rfl Try.func25 (by kernel_rfl) rfl #[.int .u64 t231] rfl (by (try simp only [List.map_toArray, List.map_cons, List.map_nil]); first | done | rfl | (simp only [List.length_drop, List.length_take]; rfl)) ?_; (with_reducible refine (float_Prev.calls k t231 t239 _ A25.out).mono ?_); rintro e w' ⟨rfl, ⟨nd, rfl⟩⟩; refine ⟨_, rfl, ?_⟩))
         go_ret
         exact ⟨by first | rfl | (simp [errW_none, errW_some] <;> rfl) | (simp [*, errW_none, errW_some] <;> rfl), by repeat (first | (with_reducible first | exact HB.out | apply zaq | apply zbq | apply zcq) | exact HB.out)⟩
        ·
         rw [if_neg c27] at H
         have c27b0 : (a0 == 18442240474082181120) = false := beq_eq_false_iff_ne.mpr c27
         have c27b1 : (a0 != 18442240474082181120) = true := bne_iff_ne.mpr c27
         obtain rfl := Option.some.inj H
         go_enter Try.func4, Try.ntmps4
         go_wp2_with (first | ((with_reducible refine zoq (f := 19) rfl ?_); refine goesL_ (some 8) rfl rfl Try.func19 (by kernel_rfl) rfl #[] rfl (by (try simp only [List.map_toArray, List.map_cons, List.map_nil]); first | done | rfl | (simp only [List.length_drop, List.length_take]; rfl)) ?_; (with_reducible refine (tabardlaw3_shown.calls k  true _ A2.out).mono ?_); rintro e w29 ⟨rfl, hb⟩; refine ⟨_, rfl, ?_⟩; have n0_ := zA (zeq (by repeat (first | (with_reducible first | exact HB.out | apply zaq | apply zbq | apply zcq) | exact HB.out)) hb); clear HB; have HB := n0_; clear n0_; (try clear hb); (try clear hb2); (try clear hk); (try clear hi)) | ((with_reducible refine zoq (f := 23) rfl ?_); refine goesL_ (some 12) rfl rfl Try.func23 (by kernel_rfl) rfl #[.int .u64 a0] rfl (by (try simp only [List.map_toArray, List.map_cons, List.map_nil]); first | done | rfl | (simp only [List.length_drop, List.length_take]; rfl)) ?_; (with_reducible refine (float_Kind.calls k a0 t228 _ A4.out).mono ?_); rintro e w' ⟨rfl, ⟨nd, rfl⟩⟩; refine ⟨_, rfl, ?_⟩) | ((with_reducible refine zoq (f := 24) rfl ?_); refine goesL_ (some 23) rfl rfl Try.func24 (by kernel_rfl) rfl #[.int .u64 a0] rfl (by (try simp only [List.map_toArray, List.map_cons, List.map_nil]); first | done | rfl | (simp only [List.length_drop, List.length_take]; rfl)) ?_; (with_reducible refine (float_Next.calls k a0 t231 _ A10.out).mono ?_); rintro e w' ⟨rfl, ⟨nd, rfl⟩⟩; refine ⟨_, rfl, ?_⟩) | ((with_reducible refine zoq (f := 23) rfl ?_); refine goesL_ (some 25) rfl rfl Try.func23 (by kernel_rfl) rfl #[.int .u64 a0] rfl (by (try simp only [List.map_toArray, List.map_cons, List.map_nil]); first | done | rfl | (simp only [List.length_drop, List.length_take]; rfl)) ?_; (with_reducible refine (float_Kind.calls k a0 t232 _ A11.out).mono ?_); rintro e w' ⟨rfl, ⟨nd, rfl⟩⟩; refine ⟨_, rfl, ?_⟩) | ((with_reducible refine zoq (f := 26) rfl ?_); refine goesL_ (some 50) rfl rfl Try.func26 (by kernel_rfl) rfl #[.int .u64 a0] rfl (by (try simp only [List.map_toArray, List.map_cons, List.map_nil]); first | done | rfl | (simp only [List.length_drop, List.length_take]; rfl)) ?_; (with_reducible refine (float_Split.calls k a0 t235 t236 t237 _ A22.out).mono ?_); rintro e w' ⟨rfl, ⟨nd, rfl⟩⟩; refine ⟨_, rfl, ?_⟩) | ((with_reducible refine zoq (f := 23) rfl ?_); refine goesL_ (some 55) rfl rfl Try.func23 (by kernel_rfl) rfl #[.int .u64 a0] rfl (by (try simp only [List.map_toArray, List.map_cons, List.map_nil]); first | done | rfl | (simp only [List.length_drop, List.length_take]; rfl)) ?_; (with_reducible refine (float_Kind.calls k a0 t238 _ A23.out).mono ?_); rintro e w' ⟨rfl, ⟨nd, rfl⟩⟩; refine ⟨_, rfl, ?_⟩) | ((with_reducible refine zoq (f := 25) rfl ?_); refine goesL_ (some 63) rfl rfl Try.func25 (by kernel_rfl) rfl #[.int .u64 t231] rfl (by (try simp only [List.map_toArray, List.map_cons, List.map_nil]); first | done | rfl | (simp only [List.length_drop, List.length_take]; rfl)) ?_; (with_reducible refine (float_Prev.calls k t231 t239 _ A25.out).mono ?_); rintro e w' ⟨rfl, ⟨nd, rfl⟩⟩; refine ⟨_, rfl, ?_⟩))
         go_ret
         exact ⟨by first | rfl | (simp [errW_none, errW_some] <;> rfl) | (simp [*, errW_none, errW_some] <;> rfl), by repeat (first | (with_reducible first | exact HB.out | apply zaq | apply zbq | apply zcq) | exact HB.out)⟩
       ·
        rw [if_neg c26] at H
        exact absurd H (by simp)
      ·
       rw [if_neg c24] at H
       have c24b0 : (t238 == 3) = false := beq_eq_false_iff_ne.mpr c24
       have c24b1 : (t238 != 3) = true := bne_iff_ne.mpr c24
       replace H := Option.bind_eq_some_iff.mp H
       obtain ⟨t240, A300, H⟩ := H
       replace H : (if t240 = 3 then ((float_Prev.f k t231).bind fun t241 => (if t241 = a0 then (if a0 = 18442240474082181120 then (some true) else (some (a0 == 9218868437227405311))) else (none))) else (if t235 = true then ((float_Prev.f k t231).bind fun t242 => (if t242 = a0 then ((float_Join.f k true 0 (IntKind.u64.wrap ((IntKind.u64.wrap (4 * t236)) - 1)) (wrap64 (t237 - 2)) true).bind fun t243 => (if t243 = a0 then (some (decide (t231 < a0))) else (none))) else (none))) else ((float_Prev.f k t231).bind fun t244 => (if t244 = a0 then ((float_Join.f k false 0 (IntKind.u64.wrap (t236 + 1)) t237 false).bind fun t245 => (some (t231 == t245))) else (none))))) = some r := H
       have A30 := zA A300
       clear A300
       by_cases c31 : t240 = 3
       ·
        rw [if_pos c31] at H
        have c31b0 : (t240 == 3) = true := beq_iff_eq.mpr c31
        have c31b1 : (t240 != 3) = false := bne_eq_false_iff_eq.mpr c31
        clear c31
        replace H := Option.bind_eq_some_iff.mp H
        obtain ⟨t241, A320, H⟩ := H
        replace H : (if t241 = a0 then (if a0 = 18442240474082181120 then (some true) else (some (a0 == 9218868437227405311))) else (none)) = some r := H
        have A32 := zA A320
        clear A320
        by_cases c33 : t241 = a0
        ·
         rw [if_pos c33] at H
         have c33b0 : (t241 == a0) = true := beq_iff_eq.mpr c33
         have c33b1 : (t241 != a0) = false := bne_eq_false_iff_eq.mpr c33
         clear c33
         by_cases c34 : a0 = 18442240474082181120
         ·
          rw [if_pos c34] at H
          have c34b0 : (a0 == 18442240474082181120) = true := beq_iff_eq.mpr c34
          have c34b1 : (a0 != 18442240474082181120) = false := bne_eq_false_iff_eq.mpr c34
          clear c34
          obtain rfl := Option.some.inj H
          go_enter Try.func4, Try.ntmps4
          go_wp2_with (first | ((with_reducible refine zoq (f := 19) rfl ?_); refine goesL_ (some 8) rfl rfl Try.func19 (by kernel_rfl) rfl #[] rfl (by (try simp only [List.map_toArray, List.map_cons, List.map_nil]); first | done | rfl | (simp only [List.length_drop, List.length_take]; rfl)) ?_; (with_reducible refine (tabardlaw3_shown.calls k  true _ A2.out).mono ?_); rintro e w35 ⟨rfl, hb⟩; refine ⟨_, rfl, ?_⟩; have n0_ := zA (zeq (by repeat (first | (with_reducible first | exact HB.out | apply zaq | apply zbq | apply zcq) | exact HB.out)) hb); clear HB; have HB := n0_; clear n0_; (try clear hb); (try clear hb2); (try clear hk); (try clear hi)) | ((with_reducible refine zoq (f := 23) rfl ?_); refine goesL_ (some 12) rfl rfl Try.func23 (by kernel_rfl) rfl #[.int .u64 a0] rfl (by (try simp only [List.map_toArray, List.map_cons, List.map_nil]); first | done | rfl | (simp only [List.length_drop, List.length_take]; rfl)) ?_; (with_reducible refine (float_Kind.calls k a0 t228 _ A4.out).mono ?_); rintro e w' ⟨rfl, ⟨nd, rfl⟩⟩; refine ⟨_, rfl, ?_⟩) | ((with_reducible refine zoq (f := 24) rfl ?_); refine goesL_ (some 23) rfl rfl Try.func24 (by kernel_rfl) rfl #[.int .u64 a0] rfl (by (try simp only [List.map_toArray, List.map_cons, List.map_nil]); first | done | rfl | (simp only [List.length_drop, List.length_take]; rfl)) ?_; (with_reducible refine (float_Next.calls k a0 t231 _ A10.out).mono ?_); rintro e w' ⟨rfl, ⟨nd, rfl⟩⟩; refine ⟨_, rfl, ?_⟩) | ((with_reducible refine zoq (f := 23) rfl ?_); refine goesL_ (some 25) rfl rfl Try.func23 (by kernel_rfl) rfl #[.int .u64 a0] rfl (by (try simp only [List.map_toArray, List.map_cons, List.map_nil]); first | done | rfl | (simp only [List.length_drop, List.length_take]; rfl)) ?_; (with_reducible refine (float_Kind.calls k a0 t232 _ A11.out).mono ?_); rintro e w' ⟨rfl, ⟨nd, rfl⟩⟩; refine ⟨_, rfl, ?_⟩) | ((with_reducible refine zoq (f := 26) rfl ?_); refine goesL_ (some 50) rfl rfl Try.func26 (by kernel_rfl) rfl #[.int .u64 a0] rfl (by (try simp only [List.map_toArray, List.map_cons, List.map_nil]); first | done | rfl | (simp only [List.length_drop, List.length_take]; rfl)) ?_; (with_reducible refine (float_Split.calls k a0 t235 t236 t237 _ A22.out).mono ?_); rintro e w' ⟨rfl, ⟨nd, rfl⟩⟩; refine ⟨_, rfl, ?_⟩) | ((with_reducible refine zoq (f := 23) rfl ?_); refine goesL_ (some 55) rfl rfl Try.func23 (by kernel_rfl) rfl #[.int .u64 a0] rfl (by (try simp only [List.map_toArray, List.map_cons, List.map_nil]); first | done | rfl | (simp only [List.length_drop, List.length_take]; rfl)) ?_; (with_reducible refine (float_Kind.calls k a0 t238 _ A23.out).mono ?_); rintro e w' ⟨rfl, ⟨nd, rfl⟩⟩; refine ⟨_, rfl, ?_⟩) | (go_at_call 23; (with_reducible refine (float_Kind.calls k t231 t240 _ A30.out).mono ?_); rintro e w' ⟨rfl, ⟨nd, rfl⟩⟩) | ((with_reducible refine zoq (f := 25) rfl ?_); refine goesL_ (some 63) rfl rfl Try.func25 (by kernel_rfl) rfl #[.int .u64 t231] rfl (by (try simp only [List.map_toArray, List.map_cons, List.map_nil]); first | done | rfl | (simp only [List.length_drop, List.length_take]; rfl)) ?_; (with_reducible refine (float_Prev.calls k t231 t241 _ A32.out).mono ?_); rintro e w' ⟨rfl, ⟨nd, rfl⟩⟩; refine ⟨_, rfl, ?_⟩))
          go_ret
          exact ⟨by first | rfl | (simp [errW_none, errW_some] <;> rfl) | (simp [*, errW_none, errW_some] <;> rfl), by repeat (first | (with_reducible first | exact HB.out | apply zaq | apply zbq | apply zcq) | exact HB.out)⟩
         ·
          rw [if_neg c34] at H
          have c34b0 : (a0 == 18442240474082181120) = false := beq_eq_false_iff_ne.mpr c34
          have c34b1 : (a0 != 18442240474082181120) = true := bne_iff_ne.mpr c34
          obtain rfl := Option.some.inj H
          go_enter Try.func4, Try.ntmps4
          go_wp2_with (first | ((with_reducible refine zoq (f := 19) rfl ?_); refine goesL_ (some 8) rfl rfl Try.func19 (by kernel_rfl) rfl #[] rfl (by (try simp only [List.map_toArray, List.map_cons, List.map_nil]); first | done | rfl | (simp only [List.length_drop, List.length_take]; rfl)) ?_; (with_reducible refine (tabardlaw3_shown.calls k  true _ A2.out).mono ?_); rintro e w36 ⟨rfl, hb⟩; refine ⟨_, rfl, ?_⟩; have n0_ := zA (zeq (by repeat (first | (with_reducible first | exact HB.out | apply zaq | apply zbq | apply zcq) | exact HB.out)) hb); clear HB; have HB := n0_; clear n0_; (try clear hb); (try clear hb2); (try clear hk); (try clear hi)) | ((with_reducible refine zoq (f := 23) rfl ?_); refine goesL_ (some 12) rfl rfl Try.func23 (by kernel_rfl) rfl #[.int .u64 a0] rfl (by (try simp only [List.map_toArray, List.map_cons, List.map_nil]); first | done | rfl | (simp only [List.length_drop, List.length_take]; rfl)) ?_; (with_reducible refine (float_Kind.calls k a0 t228 _ A4.out).mono ?_); rintro e w' ⟨rfl, ⟨nd, rfl⟩⟩; refine ⟨_, rfl, ?_⟩) | ((with_reducible refine zoq (f := 24) rfl ?_); refine goesL_ (some 23) rfl rfl Try.func24 (by kernel_rfl) rfl #[.int .u64 a0] rfl (by (try simp only [List.map_toArray, List.map_cons, List.map_nil]); first | done | rfl | (simp only [List.length_drop, List.length_take]; rfl)) ?_; (with_reducible refine (float_Next.calls k a0 t231 _ A10.out).mono ?_); rintro e w' ⟨rfl, ⟨nd, rfl⟩⟩; refine ⟨_, rfl, ?_⟩) | ((with_reducible refine zoq (f := 23) rfl ?_); refine goesL_ (some 25) rfl rfl Try.func23 (by kernel_rfl) rfl #[.int .u64 a0] rfl (by (try simp only [List.map_toArray, List.map_cons, List.map_nil]); first | done | rfl | (simp only [List.length_drop, List.length_take]; rfl)) ?_; (with_reducible refine (float_Kind.calls k a0 t232 _ A11.out).mono ?_); rintro e w' ⟨rfl, ⟨nd, rfl⟩⟩; refine ⟨_, rfl, ?_⟩) | ((with_reducible refine zoq (f := 26) rfl ?_); refine goesL_ (some 50) rfl rfl Try.func26 (by kernel_rfl) rfl #[.int .u64 a0] rfl (by (try simp only [List.map_toArray, List.map_cons, List.map_nil]); first | done | rfl | (simp only [List.length_drop, List.length_take]; rfl)) ?_; (with_reducible refine (float_Split.calls k a0 t235 t236 t237 _ A22.out).mono ?_); rintro e w' ⟨rfl, ⟨nd, rfl⟩⟩; refine ⟨_, rfl, ?_⟩) | ((with_reducible refine zoq (f := 23) rfl ?_); refine goesL_ (some 55) rfl rfl Try.func23 (by kernel_rfl) rfl #[.int .u64 a0] rfl (by (try simp only [List.map_toArray, List.map_cons, List.map_nil]); first | done | rfl | (simp only [List.length_drop, List.length_take]; rfl)) ?_; (with_reducible refine (float_Kind.calls k a0 t238 _ A23.out).mono ?_); rintro e w' ⟨rfl, ⟨nd, rfl⟩⟩; refine ⟨_, rfl, ?_⟩) | (go_at_call 23; (with_reducible refine (float_Kind.calls k t231 t240 _ A30.out).mono ?_); rintro e w' ⟨rfl, ⟨nd, rfl⟩⟩) | ((with_reducible refine zoq (f := 25) rfl ?_); refine goesL_ (some 63) rfl rfl Try.func25 (by kernel_rfl) rfl #[.int .u64 t231] rfl (by (try simp only [List.map_toArray, List.map_cons, List.map_nil]); first | done | rfl | (simp only [List.length_drop, List.length_take]; rfl)) ?_; (with_reducible refine (float_Prev.calls k t231 t241 _ A32.out).mono ?_); rintro e w' ⟨rfl, ⟨nd, rfl⟩⟩; refine ⟨_, rfl, ?_⟩))
          go_ret
          exact ⟨by first | rfl | (simp [errW_none, errW_some] <;> rfl) | (simp [*, errW_none, errW_some] <;> rfl), by repeat (first | (with_reducible first | exact HB.out | apply zaq | apply zbq | apply zcq) | exact HB.out)⟩
        ·
         rw [if_neg c33] at H
         exact absurd H (by simp)
       ·
        rw [if_neg c31] at H
        have c31b0 : (t240 == 3) = false := beq_eq_false_iff_ne.mpr c31
        have c31b1 : (t240 != 3) = true := bne_iff_ne.mpr c31
        by_cases c37 : t235 = true
        ·
         subst c37
         have H1 : ((float_Prev.f k t231).bind fun t242 => (if t242 = a0 then ((float_Join.f k true 0 (IntKind.u64.wrap ((IntKind.u64.wrap (4 * t236)) - 1)) (wrap64 (t237 - 2)) true).bind fun t243 => (if t243 = a0 then (some (decide (t231 < a0))) else (none))) else (none))) = some r := by rw [if_pos rfl] at H; exact H
         clear H
         have H := H1
         clear H1
         replace H := Option.bind_eq_some_iff.mp H
         obtain ⟨t242, A380, H⟩ := H
         replace H : (if t242 = a0 then ((float_Join.f k true 0 (IntKind.u64.wrap ((IntKind.u64.wrap (4 * t236)) - 1)) (wrap64 (t237 - 2)) true).bind fun t243 => (if t243 = a0 then (some (decide (t231 < a0))) else (none))) else (none)) = some r := H
         have A38 := zA A380
         clear A380
         by_cases c39 : t242 = a0
         ·
          rw [if_pos c39] at H
          have c39b0 : (t242 == a0) = true := beq_iff_eq.mpr c39
          have c39b1 : (t242 != a0) = false := bne_eq_false_iff_eq.mpr c39
          clear c39
          replace H := Option.bind_eq_some_iff.mp H
          obtain ⟨t243, A400, H⟩ := H
          replace H : (if t243 = a0 then (some (decide (t231 < a0))) else (none)) = some r := H
          have A40 := zA A400
          clear A400
          by_cases c41 : t243 = a0
          ·
           rw [if_pos c41] at H
           have c41b0 : (t243 == a0) = true := beq_iff_eq.mpr c41
           have c41b1 : (t243 != a0) = false := bne_eq_false_iff_eq.mpr c41
           clear c41
           obtain rfl := Option.some.inj H
           go_enter Try.func4, Try.ntmps4
           go_wp2_with (first | ((with_reducible refine zoq (f := 19) rfl ?_); refine goesL_ (some 8) rfl rfl Try.func19 (by kernel_rfl) rfl #[] rfl (by (try simp only [List.map_toArray, List.map_cons, List.map_nil]); first | done | rfl | (simp only [List.length_drop, List.length_take]; rfl)) ?_; (with_reducible refine (tabardlaw3_shown.calls k  true _ A2.out).mono ?_); rintro e w42 ⟨rfl, hb⟩; refine ⟨_, rfl, ?_⟩; have n0_ := zA (zeq (by repeat (first | (with_reducible first | exact HB.out | apply zaq | apply zbq | apply zcq) | exact HB.out)) hb); clear HB; have HB := n0_; clear n0_; (try clear hb); (try clear hb2); (try clear hk); (try clear hi)) | ((with_reducible refine zoq (f := 23) rfl ?_); refine goesL_ (some 12) rfl rfl Try.func23 (by kernel_rfl) rfl #[.int .u64 a0] rfl (by (try simp only [List.map_toArray, List.map_cons, List.map_nil]); first | done | rfl | (simp only [List.length_drop, List.length_take]; rfl)) ?_; (with_reducible refine (float_Kind.calls k a0 t228 _ A4.out).mono ?_); rintro e w' ⟨rfl, ⟨nd, rfl⟩⟩; refine ⟨_, rfl, ?_⟩) | ((with_reducible refine zoq (f := 24) rfl ?_); refine goesL_ (some 23) rfl rfl Try.func24 (by kernel_rfl) rfl #[.int .u64 a0] rfl (by (try simp only [List.map_toArray, List.map_cons, List.map_nil]); first | done | rfl | (simp only [List.length_drop, List.length_take]; rfl)) ?_; (with_reducible refine (float_Next.calls k a0 t231 _ A10.out).mono ?_); rintro e w' ⟨rfl, ⟨nd, rfl⟩⟩; refine ⟨_, rfl, ?_⟩) | ((with_reducible refine zoq (f := 23) rfl ?_); refine goesL_ (some 25) rfl rfl Try.func23 (by kernel_rfl) rfl #[.int .u64 a0] rfl (by (try simp only [List.map_toArray, List.map_cons, List.map_nil]); first | done | rfl | (simp only [List.length_drop, List.length_take]; rfl)) ?_; (with_reducible refine (float_Kind.calls k a0 t232 _ A11.out).mono ?_); rintro e w' ⟨rfl, ⟨nd, rfl⟩⟩; refine ⟨_, rfl, ?_⟩) | ((with_reducible refine zoq (f := 26) rfl ?_); refine goesL_ (some 50) rfl rfl Try.func26 (by kernel_rfl) rfl #[.int .u64 a0] rfl (by (try simp only [List.map_toArray, List.map_cons, List.map_nil]); first | done | rfl | (simp only [List.length_drop, List.length_take]; rfl)) ?_; (with_reducible refine (float_Split.calls k a0 true t236 t237 _ A22.out).mono ?_); rintro e w' ⟨rfl, ⟨nd, rfl⟩⟩; refine ⟨_, rfl, ?_⟩) | ((with_reducible refine zoq (f := 23) rfl ?_); refine goesL_ (some 55) rfl rfl Try.func23 (by kernel_rfl) rfl #[.int .u64 a0] rfl (by (try simp only [List.map_toArray, List.map_cons, List.map_nil]); first | done | rfl | (simp only [List.length_drop, List.length_take]; rfl)) ?_; (with_reducible refine (float_Kind.calls k a0 t238 _ A23.out).mono ?_); rintro e w' ⟨rfl, ⟨nd, rfl⟩⟩; refine ⟨_, rfl, ?_⟩) | (go_at_call 23; (with_reducible refine (float_Kind.calls k t231 t240 _ A30.out).mono ?_); rintro e w' ⟨rfl, ⟨nd, rfl⟩⟩) | ((with_reducible refine zoq (f := 25) rfl ?_); refine goesL_ (some 76) rfl rfl Try.func25 (by kernel_rfl) rfl #[.int .u64 t231] rfl (by (try simp only [List.map_toArray, List.map_cons, List.map_nil]); first | done | rfl | (simp only [List.length_drop, List.length_take]; rfl)) ?_; (with_reducible refine (float_Prev.calls k t231 t242 _ A38.out).mono ?_); rintro e w' ⟨rfl, ⟨nd, rfl⟩⟩; refine ⟨_, rfl, ?_⟩) | (go_at_call 20; (with_reducible refine (float_Join.calls k true 0 (IntKind.u64.wrap ((IntKind.u64.wrap (4 * t236)) - 1)) (wrap64 (t237 - 2)) true t243 _ A40.out).mono ?_); rintro e w43 ⟨rfl, hb⟩; have n0_ := zA (zeq (by repeat (first | (with_reducible first | exact HB.out | apply zaq | apply zbq | apply zcq) | exact HB.out)) hb); clear HB; have HB := n0_; clear n0_; (try clear hb); (try clear hb2); (try clear hk); (try clear hi)))
           go_ret
           exact ⟨by first | rfl | (simp [errW_none, errW_some] <;> rfl) | (simp [*, errW_none, errW_some] <;> rfl), by repeat (first | (with_reducible first | exact HB.out | apply zaq | apply zbq | apply zcq) | exact HB.out)⟩
          ·
           rw [if_neg c41] at H
           exact absurd H (by simp)
         ·
          rw [if_neg c39] at H
          exact absurd H (by simp)
        ·
         replace c37 := Bool.eq_false_iff.mpr c37
         subst c37
         have H1 : ((float_Prev.f k t231).bind fun t244 => (if t244 = a0 then ((float_Join.f k false 0 (IntKind.u64.wrap (t236 + 1)) t237 false).bind fun t245 => (some (t231 == t245))) else (none))) = some r := by rw [if_neg (show ¬ (false = true) by decide)] at H; exact H
         clear H
         have H := H1
         clear H1
         replace H := Option.bind_eq_some_iff.mp H
         obtain ⟨t244, A440, H⟩ := H
         replace H : (if t244 = a0 then ((float_Join.f k false 0 (IntKind.u64.wrap (t236 + 1)) t237 false).bind fun t245 => (some (t231 == t245))) else (none)) = some r := H
         have A44 := zA A440
         clear A440
         by_cases c45 : t244 = a0
         ·
          rw [if_pos c45] at H
          have c45b0 : (t244 == a0) = true := beq_iff_eq.mpr c45
          have c45b1 : (t244 != a0) = false := bne_eq_false_iff_eq.mpr c45
          clear c45
          replace H := Option.bind_eq_some_iff.mp H
          obtain ⟨t245, A460, H⟩ := H
          replace H : (some (t231 == t245)) = some r := H
          have A46 := zA A460
          clear A460
          obtain rfl := Option.some.inj H
          go_enter Try.func4, Try.ntmps4
          go_wp2_with (first | ((with_reducible refine zoq (f := 19) rfl ?_); refine goesL_ (some 8) rfl rfl Try.func19 (by kernel_rfl) rfl #[] rfl (by (try simp only [List.map_toArray, List.map_cons, List.map_nil]); first | done | rfl | (simp only [List.length_drop, List.length_take]; rfl)) ?_; (with_reducible refine (tabardlaw3_shown.calls k  true _ A2.out).mono ?_); rintro e w47 ⟨rfl, hb⟩; refine ⟨_, rfl, ?_⟩; have n0_ := zA (zeq (by repeat (first | (with_reducible first | exact HB.out | apply zaq | apply zbq | apply zcq) | exact HB.out)) hb); clear HB; have HB := n0_; clear n0_; (try clear hb); (try clear hb2); (try clear hk); (try clear hi)) | ((with_reducible refine zoq (f := 23) rfl ?_); refine goesL_ (some 12) rfl rfl Try.func23 (by kernel_rfl) rfl #[.int .u64 a0] rfl (by (try simp only [List.map_toArray, List.map_cons, List.map_nil]); first | done | rfl | (simp only [List.length_drop, List.length_take]; rfl)) ?_; (with_reducible refine (float_Kind.calls k a0 t228 _ A4.out).mono ?_); rintro e w' ⟨rfl, ⟨nd, rfl⟩⟩; refine ⟨_, rfl, ?_⟩) | ((with_reducible refine zoq (f := 24) rfl ?_); refine goesL_ (some 23) rfl rfl Try.func24 (by kernel_rfl) rfl #[.int .u64 a0] rfl (by (try simp only [List.map_toArray, List.map_cons, List.map_nil]); first | done | rfl | (simp only [List.length_drop, List.length_take]; rfl)) ?_; (with_reducible refine (float_Next.calls k a0 t231 _ A10.out).mono ?_); rintro e w' ⟨rfl, ⟨nd, rfl⟩⟩; refine ⟨_, rfl, ?_⟩) | ((with_reducible refine zoq (f := 23) rfl ?_); refine goesL_ (some 25) rfl rfl Try.func23 (by kernel_rfl) rfl #[.int .u64 a0] rfl (by (try simp only [List.map_toArray, List.map_cons, List.map_nil]); first | done | rfl | (simp only [List.length_drop, List.length_take]; rfl)) ?_; (with_reducible refine (float_Kind.calls k a0 t232 _ A11.out).mono ?_); rintro e w' ⟨rfl, ⟨nd, rfl⟩⟩; refine ⟨_, rfl, ?_⟩) | ((with_reducible refine zoq (f := 26) rfl ?_); refine goesL_ (some 50) rfl rfl Try.func26 (by kernel_rfl) rfl #[.int .u64 a0] rfl (by (try simp only [List.map_toArray, List.map_cons, List.map_nil]); first | done | rfl | (simp only [List.length_drop, List.length_take]; rfl)) ?_; (with_reducible refine (float_Split.calls k a0 false t236 t237 _ A22.out).mono ?_); rintro e w' ⟨rfl, ⟨nd, rfl⟩⟩; refine ⟨_, rfl, ?_⟩) | ((with_reducible refine zoq (f := 23) rfl ?_); refine goesL_ (some 55) rfl rfl Try.func23 (by kernel_rfl) rfl #[.int .u64 a0] rfl (by (try simp only [List.map_toArray, List.map_cons, List.map_nil]); first | done | rfl | (simp only [List.length_drop, List.length_take]; rfl)) ?_; (with_reducible refine (float_Kind.calls k a0 t238 _ A23.out).mono ?_); rintro e w' ⟨rfl, ⟨nd, rfl⟩⟩; refine ⟨_, rfl, ?_⟩) | (go_at_call 23; (with_reducible refine (float_Kind.calls k t231 t240 _ A30.out).mono ?_); rintro e w' ⟨rfl, ⟨nd, rfl⟩⟩) | ((with_reducible refine zoq (f := 25) rfl ?_); refine goesL_ (some 96) rfl rfl Try.func25 (by kernel_rfl) rfl #[.int .u64 t231] rfl (by (try simp only [List.map_toArray, List.map_cons, List.map_nil]); first | done | rfl | (simp only [List.length_drop, List.length_take]; rfl)) ?_; (with_reducible refine (float_Prev.calls k t231 t244 _ A44.out).mono ?_); rintro e w' ⟨rfl, ⟨nd, rfl⟩⟩; refine ⟨_, rfl, ?_⟩) | (go_at_call 20; (with_reducible refine (float_Join.calls k false 0 (IntKind.u64.wrap (t236 + 1)) t237 false t245 _ A46.out).mono ?_); rintro e w48 ⟨rfl, hb⟩; have n0_ := zA (zeq (by repeat (first | (with_reducible first | exact HB.out | apply zaq | apply zbq | apply zcq) | exact HB.out)) hb); clear HB; have HB := n0_; clear n0_; (try clear hb); (try clear hb2); (try clear hk); (try clear hi)))
          go_ret
          exact ⟨by first | rfl | (simp [errW_none, errW_some] <;> rfl) | (simp [*, errW_none, errW_some] <;> rfl), by repeat (first | (with_reducible first | exact HB.out | apply zaq | apply zbq | apply zcq) | exact HB.out)⟩
         ·
          rw [if_neg c45] at H
          exact absurd H (by simp)
 ·
  replace c3 := Bool.eq_false_iff.mpr c3
  subst c3
  have H1 : (none) = some r := by rw [if_neg (show ¬ (false = true) by decide)] at H; exact H
  clear H
  have H := H1
  clear H1
  exact absurd H (by simp)

/-- THE ONE PURE STATEMENT of tabardlaw3_FloatNexts: yours. -/
def tabardlaw3_FloatNexts.Pure : Prop := ∀ (a0 : Int), (Lit.int .u64 a0).wf = true → ∃ k, tabardlaw3_FloatNexts.f k a0 = some true
theorem tabardlaw3_FloatNexts.walk (P : tabardlaw3_FloatNexts.Pure) (a0 : Int) (w : World) (w0 : (Lit.int .u64 a0).wf = true) :
  Calls Try.prog 4 #[.int .u64 a0] w fun e w' => e = .returned (.bool true) ∧ Below w.heap.size w w' := by
 obtain ⟨k, h⟩ := P a0 w0
 refine (tabardlaw3_FloatNexts.calls k a0 true w h).mono ?_
 rintro e w' ⟨rfl, hd⟩
 exact ⟨rfl, hd⟩

end Go.Proofs.Ytbejjlecpcphoaa.P
