-- Written by a program of this session's (a turned print), not by hand.
import Derived.Test.YtbejjlecpcphoaaPx0
import Derived.Test.YtbejjlecpcphoaaPx9
import Derived.Test.YtbejjlecpcphoaaPx20
namespace Go.Proofs.Ytbejjlecpcphoaa.P
open Go.RowKit Go.Proofs.YtbejjlecpcphoaaW.PrintWords Go.Proofs.YtbejjlecpcphoaaW.PrintLast Go.Proofs.YtbejjlecpcphoaaW.PrintMore
attribute [local go_sem] max2_int min2_int max_two min_two max_three min_three max_four min_four   -- for this text's walks alone
set_option linter.unusedVariables false
set_option linter.unusedSimpArgs false

/-! ### tabardref3_Neg: function 33 -/
def tabardref3_Neg.f (k : Nat) (a0 : Int) : Option (Int) := (tabardref3_Kind.f k a0).bind fun t271 => (if t271 = 4 then (some 9221120237041090560) else (some (IntKind.u64.wrap (a0 + 9223372036854775808))))
theorem tabardref3_Neg.mono : ∀ a0 k, LeO (tabardref3_Neg.f k a0) (tabardref3_Neg.f (k + 1) a0) := by
 intro a0 k
 unfold tabardref3_Neg.f
 repeat' first
   | (with_reducible exact tabardref3_Kind.mono _ _)
   | (with_reducible exact LeO.refl _)
   | (with_reducible exact LeO.none _)
   | (with_reducible refine LeO.ite ?_ ?_)
   | (with_reducible refine LeO.bind ?_ (fun _ => ?_))
   | exact tabardref3_Kind.mono _ _
   | exact LeO.none _
   | refine LeO.ite ?_ ?_
   | refine LeO.bind ?_ (fun _ => ?_)
set_option maxHeartbeats 8000000 in
set_option maxRecDepth 100000 in
theorem tabardref3_Neg.calls (k : Nat) (a0 : Int) (r : Int) (w : World) (h : tabardref3_Neg.f k a0 = some r) :
  Calls Try.prog 33 #[.int .u64 a0] w fun e w' => e = .returned (.int .u64 r) ∧ Drawn0 w w' := by
 have H : ((tabardref3_Kind.f k a0).bind fun t271 => (if t271 = 4 then (some 9221120237041090560) else (some (IntKind.u64.wrap (a0 + 9223372036854775808))))) = some r := h
 clear h
 replace H := Option.bind_eq_some_iff.mp H
 obtain ⟨t271, A20, H⟩ := H
 replace H : (if t271 = 4 then (some 9221120237041090560) else (some (IntKind.u64.wrap (a0 + 9223372036854775808)))) = some r := H
 have A2 := zA A20
 clear A20
 by_cases c3 : t271 = 4
 ·
  rw [if_pos c3] at H
  have c3b0 : (t271 == 4) = true := beq_iff_eq.mpr c3
  have c3b1 : (t271 != 4) = false := bne_eq_false_iff_eq.mpr c3
  clear c3
  obtain rfl := Option.some.inj H
  go_enter Try.func33, Try.ntmps33
  go_wp2_with (first | ((with_reducible refine zoq (f := 29) rfl ?_); refine goesL_ (some 4) rfl rfl Try.func29 (by kernel_rfl) rfl #[.int .u64 a0] rfl (by (try simp only [List.map_toArray, List.map_cons, List.map_nil]); first | done | rfl | (simp only [List.length_drop, List.length_take]; rfl)) ?_; (with_reducible refine (tabardref3_Kind.calls k a0 t271 _ A2.out).mono ?_); rintro e w' ⟨rfl, ⟨nd, rfl⟩⟩; refine ⟨_, rfl, ?_⟩))
  go_ret
  exact ⟨by first | rfl | (simp; done) | (simp [*]; done), by repeat (first | exact Drawn0.refl _ | apply Drawn0.step)⟩
 ·
  rw [if_neg c3] at H
  have c3b0 : (t271 == 4) = false := beq_eq_false_iff_ne.mpr c3
  have c3b1 : (t271 != 4) = true := bne_iff_ne.mpr c3
  obtain rfl := Option.some.inj H
  go_enter Try.func33, Try.ntmps33
  go_wp2_with (first | ((with_reducible refine zoq (f := 29) rfl ?_); refine goesL_ (some 4) rfl rfl Try.func29 (by kernel_rfl) rfl #[.int .u64 a0] rfl (by (try simp only [List.map_toArray, List.map_cons, List.map_nil]); first | done | rfl | (simp only [List.length_drop, List.length_take]; rfl)) ?_; (with_reducible refine (tabardref3_Kind.calls k a0 t271 _ A2.out).mono ?_); rintro e w' ⟨rfl, ⟨nd, rfl⟩⟩; refine ⟨_, rfl, ?_⟩))
  go_ret
  exact ⟨by first | rfl | (simp; done) | (simp [*]; done), by repeat (first | exact Drawn0.refl _ | apply Drawn0.step)⟩

/-! ### float_Abs: function 34 -/
def float_Abs.f (k : Nat) (a0 : Int) : Option (Int) := (float_Kind.f k a0).bind fun t272 => (if t272 = 4 then (some 9221120237041090560) else (some (Go.bits .andNot .u64 a0 9223372036854775808)))
theorem float_Abs.mono : ∀ a0 k, LeO (float_Abs.f k a0) (float_Abs.f (k + 1) a0) := by
 intro a0 k
 unfold float_Abs.f
 repeat' first
   | (with_reducible exact float_Kind.mono _ _)
   | (with_reducible exact LeO.refl _)
   | (with_reducible exact LeO.none _)
   | (with_reducible refine LeO.ite ?_ ?_)
   | (with_reducible refine LeO.bind ?_ (fun _ => ?_))
   | exact float_Kind.mono _ _
   | exact LeO.none _
   | refine LeO.ite ?_ ?_
   | refine LeO.bind ?_ (fun _ => ?_)
set_option maxHeartbeats 8000000 in
set_option maxRecDepth 100000 in
theorem float_Abs.calls (k : Nat) (a0 : Int) (r : Int) (w : World) (h : float_Abs.f k a0 = some r) :
  Calls Try.prog 34 #[.int .u64 a0] w fun e w' => e = .returned (.int .u64 r) ∧ Drawn0 w w' := by
 have H : ((float_Kind.f k a0).bind fun t272 => (if t272 = 4 then (some 9221120237041090560) else (some (Go.bits .andNot .u64 a0 9223372036854775808)))) = some r := h
 clear h
 replace H := Option.bind_eq_some_iff.mp H
 obtain ⟨t272, A20, H⟩ := H
 replace H : (if t272 = 4 then (some 9221120237041090560) else (some (Go.bits .andNot .u64 a0 9223372036854775808))) = some r := H
 have A2 := zA A20
 clear A20
 by_cases c3 : t272 = 4
 ·
  rw [if_pos c3] at H
  have c3b0 : (t272 == 4) = true := beq_iff_eq.mpr c3
  have c3b1 : (t272 != 4) = false := bne_eq_false_iff_eq.mpr c3
  clear c3
  obtain rfl := Option.some.inj H
  go_enter Try.func34, Try.ntmps34
  go_wp2_with (first | ((with_reducible refine zoq (f := 23) rfl ?_); refine goesL_ (some 4) rfl rfl Try.func23 (by kernel_rfl) rfl #[.int .u64 a0] rfl (by (try simp only [List.map_toArray, List.map_cons, List.map_nil]); first | done | rfl | (simp only [List.length_drop, List.length_take]; rfl)) ?_; (with_reducible refine (float_Kind.calls k a0 t272 _ A2.out).mono ?_); rintro e w' ⟨rfl, ⟨nd, rfl⟩⟩; refine ⟨_, rfl, ?_⟩))
  go_ret
  exact ⟨by first | rfl | (simp; done) | (simp [*]; done), by repeat (first | exact Drawn0.refl _ | apply Drawn0.step)⟩
 ·
  rw [if_neg c3] at H
  have c3b0 : (t272 == 4) = false := beq_eq_false_iff_ne.mpr c3
  have c3b1 : (t272 != 4) = true := bne_iff_ne.mpr c3
  obtain rfl := Option.some.inj H
  go_enter Try.func34, Try.ntmps34
  go_wp2_with (first | ((with_reducible refine zoq (f := 23) rfl ?_); refine goesL_ (some 4) rfl rfl Try.func23 (by kernel_rfl) rfl #[.int .u64 a0] rfl (by (try simp only [List.map_toArray, List.map_cons, List.map_nil]); first | done | rfl | (simp only [List.length_drop, List.length_take]; rfl)) ?_; (with_reducible refine (float_Kind.calls k a0 t272 _ A2.out).mono ?_); rintro e w' ⟨rfl, ⟨nd, rfl⟩⟩; refine ⟨_, rfl, ?_⟩))
  go_ret
  exact ⟨by first | rfl | (simp; done) | (simp [*]; done), by repeat (first | exact Drawn0.refl _ | apply Drawn0.step)⟩

/-! ### tabardref3_Abs: function 35 -/
def tabardref3_Abs.f (k : Nat) (a0 : Int) : Option (Int) := (tabardref3_Kind.f k a0).bind fun t273 => (if t273 = 4 then (some 9221120237041090560) else (some (Int.tmod a0 9223372036854775808)))
theorem tabardref3_Abs.mono : ∀ a0 k, LeO (tabardref3_Abs.f k a0) (tabardref3_Abs.f (k + 1) a0) := by
 intro a0 k
 unfold tabardref3_Abs.f
 repeat' first
   | (with_reducible exact tabardref3_Kind.mono _ _)
   | (with_reducible exact LeO.refl _)
   | (with_reducible exact LeO.none _)
   | (with_reducible refine LeO.ite ?_ ?_)
   | (with_reducible refine LeO.bind ?_ (fun _ => ?_))
   | exact tabardref3_Kind.mono _ _
   | exact LeO.none _
   | refine LeO.ite ?_ ?_
   | refine LeO.bind ?_ (fun _ => ?_)
set_option maxHeartbeats 8000000 in
set_option maxRecDepth 100000 in
theorem tabardref3_Abs.calls (k : Nat) (a0 : Int) (r : Int) (w : World) (h : tabardref3_Abs.f k a0 = some r) :
  Calls Try.prog 35 #[.int .u64 a0] w fun e w' => e = .returned (.int .u64 r) ∧ Drawn0 w w' := by
 have H : ((tabardref3_Kind.f k a0).bind fun t273 => (if t273 = 4 then (some 9221120237041090560) else (some (Int.tmod a0 9223372036854775808)))) = some r := h
 clear h
 replace H := Option.bind_eq_some_iff.mp H
 obtain ⟨t273, A20, H⟩ := H
 replace H : (if t273 = 4 then (some 9221120237041090560) else (some (Int.tmod a0 9223372036854775808))) = some r := H
 have A2 := zA A20
 clear A20
 by_cases c3 : t273 = 4
 ·
  rw [if_pos c3] at H
  have c3b0 : (t273 == 4) = true := beq_iff_eq.mpr c3
  have c3b1 : (t273 != 4) = false := bne_eq_false_iff_eq.mpr c3
  clear c3
  obtain rfl := Option.some.inj H
  go_enter Try.func35, Try.ntmps35
  go_wp2_with (first | ((with_reducible refine zoq (f := 29) rfl ?_); refine goesL_ (some 4) rfl rfl Try.func29 (by kernel_rfl) rfl #[.int .u64 a0] rfl (by (try simp only [List.map_toArray, List.map_cons, List.map_nil]); first | done | rfl | (simp only [List.length_drop, List.length_take]; rfl)) ?_; (with_reducible refine (tabardref3_Kind.calls k a0 t273 _ A2.out).mono ?_); rintro e w' ⟨rfl, ⟨nd, rfl⟩⟩; refine ⟨_, rfl, ?_⟩))
  go_ret
  exact ⟨by first | rfl | (simp; done) | (simp [*]; done), by repeat (first | exact Drawn0.refl _ | apply Drawn0.step)⟩
 ·
  rw [if_neg c3] at H
  have c3b0 : (t273 == 4) = false := beq_eq_false_iff_ne.mpr c3
  have c3b1 : (t273 != 4) = true := bne_iff_ne.mpr c3
  obtain rfl := Option.some.inj H
  go_enter Try.func35, Try.ntmps35
  go_wp2_with (first | ((with_reducible refine zoq (f := 29) rfl ?_); refine goesL_ (some 4) rfl rfl Try.func29 (by kernel_rfl) rfl #[.int .u64 a0] rfl (by (try simp only [List.map_toArray, List.map_cons, List.map_nil]); first | done | rfl | (simp only [List.length_drop, List.length_take]; rfl)) ?_; (with_reducible refine (tabardref3_Kind.calls k a0 t273 _ A2.out).mono ?_); rintro e w' ⟨rfl, ⟨nd, rfl⟩⟩; refine ⟨_, rfl, ?_⟩))
  go_ret
  exact ⟨by first | rfl | (simp; done) | (simp [*]; done), by repeat (first | exact Drawn0.refl _ | apply Drawn0.step)⟩

/-! ### tabardref3_Next: function 36 -/
def tabardref3_Next.f (k : Nat) (a0 : Int) : Option (Int) := (tabardref3_Kind.f k a0).bind fun t274 => (if t274 = 4 then (some 9221120237041090560) else ((tabardref3_Kind.f k a0).bind fun t275 => (if t275 = 0 then (some 1) else (if a0 = 9218868437227405312 then (some 9218868437227405312) else (if a0 < 9223372036854775808 then (some (IntKind.u64.wrap (a0 + 1))) else (some (IntKind.u64.wrap (a0 - 1))))))))
theorem tabardref3_Next.mono : ∀ a0 k, LeO (tabardref3_Next.f k a0) (tabardref3_Next.f (k + 1) a0) := by
 intro a0 k
 unfold tabardref3_Next.f
 repeat' first
   | (with_reducible exact tabardref3_Kind.mono _ _)
   | (with_reducible exact LeO.refl _)
   | (with_reducible exact LeO.none _)
   | (with_reducible refine LeO.ite ?_ ?_)
   | (with_reducible refine LeO.bind ?_ (fun _ => ?_))
   | exact tabardref3_Kind.mono _ _
   | exact LeO.none _
   | refine LeO.ite ?_ ?_
   | refine LeO.bind ?_ (fun _ => ?_)
set_option maxHeartbeats 8000000 in
set_option maxRecDepth 100000 in
theorem tabardref3_Next.calls (k : Nat) (a0 : Int) (r : Int) (w : World) (h : tabardref3_Next.f k a0 = some r) :
  Calls Try.prog 36 #[.int .u64 a0] w fun e w' => e = .returned (.int .u64 r) ∧ Drawn0 w w' := by
 have H : ((tabardref3_Kind.f k a0).bind fun t274 => (if t274 = 4 then (some 9221120237041090560) else ((tabardref3_Kind.f k a0).bind fun t275 => (if t275 = 0 then (some 1) else (if a0 = 9218868437227405312 then (some 9218868437227405312) else (if a0 < 9223372036854775808 then (some (IntKind.u64.wrap (a0 + 1))) else (some (IntKind.u64.wrap (a0 - 1))))))))) = some r := h
 clear h
 replace H := Option.bind_eq_some_iff.mp H
 obtain ⟨t274, A20, H⟩ := H
 replace H : (if t274 = 4 then (some 9221120237041090560) else ((tabardref3_Kind.f k a0).bind fun t275 => (if t275 = 0 then (some 1) else (if a0 = 9218868437227405312 then (some 9218868437227405312) else (if a0 < 9223372036854775808 then (some (IntKind.u64.wrap (a0 + 1))) else (some (IntKind.u64.wrap (a0 - 1)))))))) = some r := H
 have A2 := zA A20
 clear A20
 by_cases c3 : t274 = 4
 ·
  rw [if_pos c3] at H
  have c3b0 : (t274 == 4) = true := beq_iff_eq.mpr c3
  have c3b1 : (t274 != 4) = false := bne_eq_false_iff_eq.mpr c3
  clear c3
  obtain rfl := Option.some.inj H
  go_enter Try.func36, Try.ntmps36
  go_wp2_with (first | ((with_reducible refine zoq (f := 29) rfl ?_); refine goesL_ (some 5) rfl rfl Try.func29 (by kernel_rfl) rfl #[.int .u64 a0] rfl (by (try simp only [List.map_toArray, List.map_cons, List.map_nil]); first | done | rfl | (simp only [List.length_drop, List.length_take]; rfl)) ?_; (with_reducible refine (tabardref3_Kind.calls k a0 t274 _ A2.out).mono ?_); rintro e w' ⟨rfl, ⟨nd, rfl⟩⟩; refine ⟨_, rfl, ?_⟩))
  go_ret
  exact ⟨by first | rfl | (simp; done) | (simp [*]; done), by repeat (first | exact Drawn0.refl _ | apply Drawn0.step)⟩
 ·
  rw [if_neg c3] at H
  have c3b0 : (t274 == 4) = false := beq_eq_false_iff_ne.mpr c3
  have c3b1 : (t274 != 4) = true := bne_iff_ne.mpr c3
  replace H := Option.bind_eq_some_iff.mp H
  obtain ⟨t275, A40, H⟩ := H
  replace H : (if t275 = 0 then (some 1) else (if a0 = 9218868437227405312 then (some 9218868437227405312) else (if a0 < 9223372036854775808 then (some (IntKind.u64.wrap (a0 + 1))) else (some (IntKind.u64.wrap (a0 - 1)))))) = some r := H
  have A4 := zA A40
  clear A40
  by_cases c5 : t275 = 0
  ·
   rw [if_pos c5] at H
   have c5b0 : (t275 == 0) = true := beq_iff_eq.mpr c5
   have c5b1 : (t275 != 0) = false := bne_eq_false_iff_eq.mpr c5
   clear c5
   obtain rfl := Option.some.inj H
   go_enter Try.func36, Try.ntmps36
   go_wp2_with (first | ((with_reducible refine zoq (f := 29) rfl ?_); refine goesL_ (some 5) rfl rfl Try.func29 (by kernel_rfl) rfl #[.int .u64 a0] rfl (by (try simp only [List.map_toArray, List.map_cons, List.map_nil]); first | done | rfl | (simp only [List.length_drop, List.length_take]; rfl)) ?_; (with_reducible refine (tabardref3_Kind.calls k a0 t274 _ A2.out).mono ?_); rintro e w' ⟨rfl, ⟨nd, rfl⟩⟩; refine ⟨_, rfl, ?_⟩) | ((with_reducible refine zoq (f := 29) rfl ?_); refine goesL_ (some 9) rfl rfl Try.func29 (by kernel_rfl) rfl #[.int .u64 a0] rfl (by (try simp only [List.map_toArray, List.map_cons, List.map_nil]); first | done | rfl | (simp only [List.length_drop, List.length_take]; rfl)) ?_; (with_reducible refine (tabardref3_Kind.calls k a0 t275 _ A4.out).mono ?_); rintro e w' ⟨rfl, ⟨nd, rfl⟩⟩; refine ⟨_, rfl, ?_⟩))
   go_ret
   exact ⟨by first | rfl | (simp; done) | (simp [*]; done), by repeat (first | exact Drawn0.refl _ | apply Drawn0.step)⟩
  ·
   rw [if_neg c5] at H
   have c5b0 : (t275 == 0) = false := beq_eq_false_iff_ne.mpr c5
   have c5b1 : (t275 != 0) = true := bne_iff_ne.mpr c5
   by_cases c6 : a0 = 9218868437227405312
   ·
    rw [if_pos c6] at H
    have c6b0 : (a0 == 9218868437227405312) = true := beq_iff_eq.mpr c6
    have c6b1 : (a0 != 9218868437227405312) = false := bne_eq_false_iff_eq.mpr c6
    clear c6
    obtain rfl := Option.some.inj H
    go_enter Try.func36, Try.ntmps36
    go_wp2_with (first | ((with_reducible refine zoq (f := 29) rfl ?_); refine goesL_ (some 5) rfl rfl Try.func29 (by kernel_rfl) rfl #[.int .u64 a0] rfl (by (try simp only [List.map_toArray, List.map_cons, List.map_nil]); first | done | rfl | (simp only [List.length_drop, List.length_take]; rfl)) ?_; (with_reducible refine (tabardref3_Kind.calls k a0 t274 _ A2.out).mono ?_); rintro e w' ⟨rfl, ⟨nd, rfl⟩⟩; refine ⟨_, rfl, ?_⟩) | ((with_reducible refine zoq (f := 29) rfl ?_); refine goesL_ (some 9) rfl rfl Try.func29 (by kernel_rfl) rfl #[.int .u64 a0] rfl (by (try simp only [List.map_toArray, List.map_cons, List.map_nil]); first | done | rfl | (simp only [List.length_drop, List.length_take]; rfl)) ?_; (with_reducible refine (tabardref3_Kind.calls k a0 t275 _ A4.out).mono ?_); rintro e w' ⟨rfl, ⟨nd, rfl⟩⟩; refine ⟨_, rfl, ?_⟩))
    go_ret
    exact ⟨by first | rfl | (simp; done) | (simp [*]; done), by repeat (first | exact Drawn0.refl _ | apply Drawn0.step)⟩
   ·
    rw [if_neg c6] at H
    have c6b0 : (a0 == 9218868437227405312) = false := beq_eq_false_iff_ne.mpr c6
    have c6b1 : (a0 != 9218868437227405312) = true := bne_iff_ne.mpr c6
    by_cases c7 : a0 < 9223372036854775808
    ·
     rw [if_pos c7] at H
     have c7b0 : decide (a0 < 9223372036854775808) = true := decide_eq_true c7
     clear c7
     obtain rfl := Option.some.inj H
     go_enter Try.func36, Try.ntmps36
     go_wp2_with (first | ((with_reducible refine zoq (f := 29) rfl ?_); refine goesL_ (some 5) rfl rfl Try.func29 (by kernel_rfl) rfl #[.int .u64 a0] rfl (by (try simp only [List.map_toArray, List.map_cons, List.map_nil]); first | done | rfl | (simp only [List.length_drop, List.length_take]; rfl)) ?_; (with_reducible refine (tabardref3_Kind.calls k a0 t274 _ A2.out).mono ?_); rintro e w' ⟨rfl, ⟨nd, rfl⟩⟩; refine ⟨_, rfl, ?_⟩) | ((with_reducible refine zoq (f := 29) rfl ?_); refine goesL_ (some 9) rfl rfl Try.func29 (by kernel_rfl) rfl #[.int .u64 a0] rfl (by (try simp only [List.map_toArray, List.map_cons, List.map_nil]); first | done | rfl | (simp only [List.length_drop, List.length_take]; rfl)) ?_; (with_reducible refine (tabardref3_Kind.calls k a0 t275 _ A4.out).mono ?_); rintro e w' ⟨rfl, ⟨nd, rfl⟩⟩; refine ⟨_, rfl, ?_⟩))
     go_ret
     exact ⟨by first | rfl | (simp; done) | (simp [*]; done), by repeat (first | exact Drawn0.refl _ | apply Drawn0.step)⟩
    ·
     rw [if_neg c7] at H
     have c7b0 : decide (a0 < 9223372036854775808) = false := decide_eq_false c7
     clear c7
     obtain rfl := Option.some.inj H
     go_enter Try.func36, Try.ntmps36
     go_wp2_with (first | ((with_reducible refine zoq (f := 29) rfl ?_); refine goesL_ (some 5) rfl rfl Try.func29 (by kernel_rfl) rfl #[.int .u64 a0] rfl (by (try simp only [List.map_toArray, List.map_cons, List.map_nil]); first | done | rfl | (simp only [List.length_drop, List.length_take]; rfl)) ?_; (with_reducible refine (tabardref3_Kind.calls k a0 t274 _ A2.out).mono ?_); rintro e w' ⟨rfl, ⟨nd, rfl⟩⟩; refine ⟨_, rfl, ?_⟩) | ((with_reducible refine zoq (f := 29) rfl ?_); refine goesL_ (some 9) rfl rfl Try.func29 (by kernel_rfl) rfl #[.int .u64 a0] rfl (by (try simp only [List.map_toArray, List.map_cons, List.map_nil]); first | done | rfl | (simp only [List.length_drop, List.length_take]; rfl)) ?_; (with_reducible refine (tabardref3_Kind.calls k a0 t275 _ A4.out).mono ?_); rintro e w' ⟨rfl, ⟨nd, rfl⟩⟩; refine ⟨_, rfl, ?_⟩))
     go_ret
     exact ⟨by first | rfl | (simp; done) | (simp [*]; done), by repeat (first | exact Drawn0.refl _ | apply Drawn0.step)⟩

/-! ### tabardref3_Prev: function 37 -/
def tabardref3_Prev.f (k : Nat) (a0 : Int) : Option (Int) := (tabardref3_Neg.f k a0).bind fun t276 => ((tabardref3_Next.f k t276).bind fun t277 => ((tabardref3_Neg.f k t277).bind fun t278 => (some t278)))
theorem tabardref3_Prev.mono : ∀ a0 k, LeO (tabardref3_Prev.f k a0) (tabardref3_Prev.f (k + 1) a0) := by
 intro a0 k
 unfold tabardref3_Prev.f
 repeat' first
   | (with_reducible exact tabardref3_Neg.mono _ _)
   | (with_reducible exact tabardref3_Next.mono _ _)
   | (with_reducible exact LeO.refl _)
   | (with_reducible exact LeO.none _)
   | (with_reducible refine LeO.ite ?_ ?_)
   | (with_reducible refine LeO.bind ?_ (fun _ => ?_))
   | exact tabardref3_Neg.mono _ _
   | exact tabardref3_Next.mono _ _
   | exact LeO.none _
   | refine LeO.ite ?_ ?_
   | refine LeO.bind ?_ (fun _ => ?_)
set_option maxHeartbeats 8000000 in
set_option maxRecDepth 100000 in
theorem tabardref3_Prev.calls (k : Nat) (a0 : Int) (r : Int) (w : World) (h : tabardref3_Prev.f k a0 = some r) :
  Calls Try.prog 37 #[.int .u64 a0] w fun e w' => e = .returned (.int .u64 r) ∧ Drawn0 w w' := by
 have H : ((tabardref3_Neg.f k a0).bind fun t276 => ((tabardref3_Next.f k t276).bind fun t277 => ((tabardref3_Neg.f k t277).bind fun t278 => (some t278)))) = some r := h
 clear h
 replace H := Option.bind_eq_some_iff.mp H
 obtain ⟨t276, A20, H⟩ := H
 replace H : ((tabardref3_Next.f k t276).bind fun t277 => ((tabardref3_Neg.f k t277).bind fun t278 => (some t278))) = some r := H
 have A2 := zA A20
 clear A20
 replace H := Option.bind_eq_some_iff.mp H
 obtain ⟨t277, A30, H⟩ := H
 replace H : ((tabardref3_Neg.f k t277).bind fun t278 => (some t278)) = some r := H
 have A3 := zA A30
 clear A30
 replace H := Option.bind_eq_some_iff.mp H
 obtain ⟨t278, A40, H⟩ := H
 replace H : (some t278) = some r := H
 have A4 := zA A40
 clear A40
 obtain rfl := Option.some.inj H
 go_enter Try.func37, Try.ntmps37
 go_wp2_with (first | ((with_reducible refine zoq (f := 33) rfl ?_); refine goesL_ (some 4) rfl rfl Try.func33 (by kernel_rfl) rfl #[.int .u64 a0] rfl (by (try simp only [List.map_toArray, List.map_cons, List.map_nil]); first | done | rfl | (simp only [List.length_drop, List.length_take]; rfl)) ?_; (with_reducible refine (tabardref3_Neg.calls k a0 t276 _ A2.out).mono ?_); rintro e w' ⟨rfl, ⟨nd, rfl⟩⟩; refine ⟨_, rfl, ?_⟩) | ((with_reducible refine zoq (f := 36) rfl ?_); refine goesL_ (some 5) rfl rfl Try.func36 (by kernel_rfl) rfl #[.int .u64 t276] rfl (by (try simp only [List.map_toArray, List.map_cons, List.map_nil]); first | done | rfl | (simp only [List.length_drop, List.length_take]; rfl)) ?_; (with_reducible refine (tabardref3_Next.calls k t276 t277 _ A3.out).mono ?_); rintro e w' ⟨rfl, ⟨nd, rfl⟩⟩; refine ⟨_, rfl, ?_⟩) | ((with_reducible refine zoq (f := 33) rfl ?_); refine goesL_ (some 6) rfl rfl Try.func33 (by kernel_rfl) rfl #[.int .u64 t277] rfl (by (try simp only [List.map_toArray, List.map_cons, List.map_nil]); first | done | rfl | (simp only [List.length_drop, List.length_take]; rfl)) ?_; (with_reducible refine (tabardref3_Neg.calls k t277 t278 _ A4.out).mono ?_); rintro e w' ⟨rfl, ⟨nd, rfl⟩⟩; refine ⟨_, rfl, ?_⟩))
 go_ret
 exact ⟨by first | rfl | (simp; done) | (simp [*]; done), by repeat (first | exact Drawn0.refl _ | apply Drawn0.step)⟩

end Go.Proofs.Ytbejjlecpcphoaa.P
