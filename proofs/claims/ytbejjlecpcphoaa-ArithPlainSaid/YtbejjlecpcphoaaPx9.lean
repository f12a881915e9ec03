-- Written by a program of this session's (a turned print), not by hand.
import Derived.Test.YtbejjlecpcphoaaPx0
namespace Go.Proofs.Ytbejjlecpcphoaa.P
open Go.RowKit Go.Proofs.YtbejjlecpcphoaaW.PrintWords Go.Proofs.YtbejjlecpcphoaaW.PrintLast Go.Proofs.YtbejjlecpcphoaaW.PrintMore
attribute [local go_sem] max2_int min2_int max_two min_two max_three min_three max_four min_four   -- for this text's walks alone
set_option linter.unusedVariables false
set_option linter.unusedSimpArgs false

/-! ### float_Kind: function 23 -/
def float_Kind.j0 : Nat → Int → Int → Bool → Option (Int)
 | 0, _, _, _ => none
 | k + 1, x3, x4, x10 => if x10 = true then (some 4) else (if x3 = 2047 then (some 3) else (if x3 > 0 then (some 2) else (if x4 > 0 then (some 1) else (some 0))))
def float_Kind.f (k : Nat) (a0 : Int) : Option (Int) := if (Go.bits .and .u64 (a0 / 4503599627370496) 2047) = 2047 then (float_Kind.j0 k (Go.bits .and .u64 (a0 / 4503599627370496) 2047) (Go.bits .and .u64 a0 4503599627370495) ((Go.bits .and .u64 a0 4503599627370495) != 0)) else (float_Kind.j0 k (Go.bits .and .u64 (a0 / 4503599627370496) 2047) (Go.bits .and .u64 a0 4503599627370495) false)
theorem float_Kind.mono_l : ∀ k, (∀ y0 y1 y2, LeO (float_Kind.j0 k y0 y1 y2) (float_Kind.j0 (k + 1) y0 y1 y2))
 | 0 => fun _ _ _ r h => by simp [float_Kind.j0] at h
 | k + 1 => by
  have ih0 := float_Kind.mono_l k
  ·
   intro y0 y1 y2
   unfold float_Kind.j0
   repeat' first
   | (with_reducible exact ih0 _ _ _)
   | (with_reducible exact LeO.refl _)
   | (with_reducible exact LeO.none _)
   | (with_reducible refine LeO.ite ?_ ?_)
   | (with_reducible refine LeO.bind ?_ (fun _ => ?_))
   | exact ih0 _ _ _
   | exact LeO.none _
   | refine LeO.ite ?_ ?_
   | refine LeO.bind ?_ (fun _ => ?_)
theorem float_Kind.mono : ∀ a0 k, LeO (float_Kind.f k a0) (float_Kind.f (k + 1) a0) := by
 intro a0 k
 have ih0 := float_Kind.mono_l k
 unfold float_Kind.f
 repeat' first
   | (with_reducible exact ih0 _ _ _)
   | (with_reducible exact LeO.refl _)
   | (with_reducible exact LeO.none _)
   | (with_reducible refine LeO.ite ?_ ?_)
   | (with_reducible refine LeO.bind ?_ (fun _ => ?_))
   | exact ih0 _ _ _
   | exact LeO.none _
   | refine LeO.ite ?_ ?_
   | refine LeO.bind ?_ (fun _ => ?_)
set_option maxHeartbeats 8000000 in
set_option maxRecDepth 100000 in
theorem float_Kind.calls (k : Nat) (a0 : Int) (r : Int) (w : World) (h : float_Kind.f k a0 = some r) :
  Calls Try.prog 23 #[.int .u64 a0] w fun e w' => e = .returned (.int .i64 r) ∧ Drawn0 w w' := by
 have H : (if (Go.bits .and .u64 (a0 / 4503599627370496) 2047) = 2047 then (float_Kind.j0 k (Go.bits .and .u64 (a0 / 4503599627370496) 2047) (Go.bits .and .u64 a0 4503599627370495) ((Go.bits .and .u64 a0 4503599627370495) != 0)) else (float_Kind.j0 k (Go.bits .and .u64 (a0 / 4503599627370496) 2047) (Go.bits .and .u64 a0 4503599627370495) false)) = some r := h
 clear h
 have HC2 := zA H
 clear H
 go_enter Try.func23, Try.ntmps23
 go_upto_region 2 with (fail)
 go_cut [10] (fun v10 wc => ∃ (kq : Nat) (x10_1 : Bool), v10 = .bool x10_1 ∧ Aside0 (float_Kind.j0 kq (Go.bits .and .u64 (a0 / 4503599627370496) 2047) (Go.bits .and .u64 a0 4503599627370495) x10_1 = some r) ∧ Aside0 (kq ≤ k) ∧ Drawn0 w wc)
 case first =>
  have H := HC2.out
  clear HC2
  by_cases c3 : (Go.bits .and .u64 (a0 / 4503599627370496) 2047) = 2047
  ·
   rw [if_pos c3] at H
   have c3b0 : ((Go.bits .and .u64 (a0 / 4503599627370496) 2047) == 2047) = true := beq_iff_eq.mpr c3
   have c3b1 : ((Go.bits .and .u64 (a0 / 4503599627370496) 2047) != 2047) = false := bne_eq_false_iff_eq.mpr c3
   clear c3
   (first | rw [c3b0] | (simp only [i64_w, i32_w]; rw [c3b0]) | skip)
   have H' := zA H
   clear H
   go_wp2
   go_meet
   case rel => exact ⟨_, (((Go.bits .and .u64 a0 4503599627370495) != 0)), (by first | rfl | (simp; done) | (simp [*]; done)), H', ⟨by first | omega | exact Nat.le_refl _⟩, by repeat (first | exact Drawn0.refl _ | apply Drawn0.step)⟩
  ·
   rw [if_neg c3] at H
   have c3b0 : ((Go.bits .and .u64 (a0 / 4503599627370496) 2047) == 2047) = false := beq_eq_false_iff_ne.mpr c3
   have c3b1 : ((Go.bits .and .u64 (a0 / 4503599627370496) 2047) != 2047) = true := bne_iff_ne.mpr c3
   (first | rw [c3b0] | (simp only [i64_w, i32_w]; rw [c3b0]) | skip)
   have H' := zA H
   clear H
   go_wp2
   go_meet
   case rel => exact ⟨_, (false), (by first | rfl | (simp; done) | (simp [*]; done)), H', ⟨by first | omega | exact Nat.le_refl _⟩, by repeat (first | exact Drawn0.refl _ | apply Drawn0.step)⟩
 case rest =>
  clear HC2
  try clear c2
  try clear p2
  try clear c3
  try clear c3b0
  try clear c3b1
  obtain ⟨kq, x10_1, rfl, HA, HJ1, ⟨mc1, rfl⟩⟩ := hcut
  cases kq with
  | zero => exact absurd HA.out (by simp [float_Kind.j0])
  | succ kj1 =>
   have H := HA.out
   clear HA
   simp only [float_Kind.j0] at H
   by_cases c4 : x10_1 = true
   ·
    subst c4
    have H1 : (some 4) = some r := by rw [if_pos rfl] at H; exact H
    clear H
    have H := H1
    clear H1
    obtain rfl := Option.some.inj H
    go_wp2
    go_ret
    exact ⟨by first | rfl | (simp; done) | (simp [*]; done), by repeat (first | exact Drawn0.refl _ | apply Drawn0.step)⟩
   ·
    replace c4 := Bool.eq_false_iff.mpr c4
    subst c4
    have H1 : (if (Go.bits .and .u64 (a0 / 4503599627370496) 2047) = 2047 then (some 3) else (if (Go.bits .and .u64 (a0 / 4503599627370496) 2047) > 0 then (some 2) else (if (Go.bits .and .u64 a0 4503599627370495) > 0 then (some 1) else (some 0)))) = some r := by rw [if_neg (show ¬ (false = true) by decide)] at H; exact H
    clear H
    have H := H1
    clear H1
    by_cases c5 : (Go.bits .and .u64 (a0 / 4503599627370496) 2047) = 2047
    ·
     rw [if_pos c5] at H
     have c5b0 : ((Go.bits .and .u64 (a0 / 4503599627370496) 2047) == 2047) = true := beq_iff_eq.mpr c5
     have c5b1 : ((Go.bits .and .u64 (a0 / 4503599627370496) 2047) != 2047) = false := bne_eq_false_iff_eq.mpr c5
     clear c5
     obtain rfl := Option.some.inj H
     go_wp2
     go_ret
     exact ⟨by first | rfl | (simp; done) | (simp [*]; done), by repeat (first | exact Drawn0.refl _ | apply Drawn0.step)⟩
    ·
     rw [if_neg c5] at H
     have c5b0 : ((Go.bits .and .u64 (a0 / 4503599627370496) 2047) == 2047) = false := beq_eq_false_iff_ne.mpr c5
     have c5b1 : ((Go.bits .and .u64 (a0 / 4503599627370496) 2047) != 2047) = true := bne_iff_ne.mpr c5
     by_cases c6 : (Go.bits .and .u64 (a0 / 4503599627370496) 2047) > 0
     ·
      rw [if_pos c6] at H
      have c6b0 : decide (0 < (Go.bits .and .u64 (a0 / 4503599627370496) 2047)) = true := decide_eq_true c6
      clear c6
      obtain rfl := Option.some.inj H
      go_wp2
      go_ret
      exact ⟨by first | rfl | (simp; done) | (simp [*]; done), by repeat (first | exact Drawn0.refl _ | apply Drawn0.step)⟩
     ·
      rw [if_neg c6] at H
      have c6b0 : decide (0 < (Go.bits .and .u64 (a0 / 4503599627370496) 2047)) = false := decide_eq_false c6
      clear c6
      by_cases c7 : (Go.bits .and .u64 a0 4503599627370495) > 0
      ·
       rw [if_pos c7] at H
       have c7b0 : decide (0 < (Go.bits .and .u64 a0 4503599627370495)) = true := decide_eq_true c7
       clear c7
       obtain rfl := Option.some.inj H
       go_wp2
       go_ret
       exact ⟨by first | rfl | (simp; done) | (simp [*]; done), by repeat (first | exact Drawn0.refl _ | apply Drawn0.step)⟩
      ·
       rw [if_neg c7] at H
       have c7b0 : decide (0 < (Go.bits .and .u64 a0 4503599627370495)) = false := decide_eq_false c7
       clear c7
       obtain rfl := Option.some.inj H
       go_wp2
       go_ret
       exact ⟨by first | rfl | (simp; done) | (simp [*]; done), by repeat (first | exact Drawn0.refl _ | apply Drawn0.step)⟩

/-! ### float_Next: function 24 -/
def float_Next.f (k : Nat) (a0 : Int) : Option (Int) := (float_Kind.f k a0).bind fun t129 => (if t129 = 4 then (some 9221120237041090560) else (if t129 = 0 then (some 1) else (if t129 = 3 then (if a0 = 9218868437227405312 then (some a0) else (if a0 ≥ 9223372036854775808 then (some (IntKind.u64.wrap (a0 - 1))) else (some (IntKind.u64.wrap (a0 + 1))))) else (if a0 ≥ 9223372036854775808 then (some (IntKind.u64.wrap (a0 - 1))) else (some (IntKind.u64.wrap (a0 + 1)))))))
theorem float_Next.mono : ∀ a0 k, LeO (float_Next.f k a0) (float_Next.f (k + 1) a0) := by
 intro a0 k
 unfold float_Next.f
 repeat' first
   | (with_reducible exact float_Kind.mono _ _)
   | (with_reducible exact LeO.refl _)
   | (with_reducible exact LeO.none _)
   | (with_reducible refine LeO.ite ?_ ?_)
   | (with_reducible refine LeO.bind ?_ (fun _ => ?_))
   | exact float_Kind.mono _ _
   | exact LeO.none _
   | refine LeO.ite ?_ ?_
   | refine LeO.bind ?_ (fun _ => ?_)
set_option maxHeartbeats 8000000 in
set_option maxRecDepth 100000 in
theorem float_Next.calls (k : Nat) (a0 : Int) (r : Int) (w : World) (h : float_Next.f k a0 = some r) :
  Calls Try.prog 24 #[.int .u64 a0] w fun e w' => e = .returned (.int .u64 r) ∧ Drawn0 w w' := by
 have H : ((float_Kind.f k a0).bind fun t129 => (if t129 = 4 then (some 9221120237041090560) else (if t129 = 0 then (some 1) else (if t129 = 3 then (if a0 = 9218868437227405312 then (some a0) else (if a0 ≥ 9223372036854775808 then (some (IntKind.u64.wrap (a0 - 1))) else (some (IntKind.u64.wrap (a0 + 1))))) else (if a0 ≥ 9223372036854775808 then (some (IntKind.u64.wrap (a0 - 1))) else (some (IntKind.u64.wrap (a0 + 1)))))))) = some r := h
 clear h
 replace H := Option.bind_eq_some_iff.mp H
 obtain ⟨t129, A20, H⟩ := H
 replace H : (if t129 = 4 then (some 9221120237041090560) else (if t129 = 0 then (some 1) else (if t129 = 3 then (if a0 = 9218868437227405312 then (some a0) else (if a0 ≥ 9223372036854775808 then (some (IntKind.u64.wrap (a0 - 1))) else (some (IntKind.u64.wrap (a0 + 1))))) else (if a0 ≥ 9223372036854775808 then (some (IntKind.u64.wrap (a0 - 1))) else (some (IntKind.u64.wrap (a0 + 1))))))) = some r := H
 have A2 := zA A20
 clear A20
 by_cases c3 : t129 = 4
 ·
  rw [if_pos c3] at H
  have c3b0 : (t129 == 4) = true := beq_iff_eq.mpr c3
  have c3b1 : (t129 != 4) = false := bne_eq_false_iff_eq.mpr c3
  clear c3
  obtain rfl := Option.some.inj H
  go_enter Try.func24, Try.ntmps24
  go_wp2_with (first | ((with_reducible refine zoq (f := 23) rfl ?_); refine goesL_ (some 4) rfl rfl Try.func23 (by kernel_rfl) rfl #[.int .u64 a0] rfl (by (try simp only [List.map_toArray, List.map_cons, List.map_nil]); first | done | rfl | (simp only [List.length_drop, List.length_take]; rfl)) ?_; (with_reducible refine (float_Kind.calls k a0 t129 _ A2.out).mono ?_); rintro e w' ⟨rfl, ⟨nd, rfl⟩⟩; refine ⟨_, rfl, ?_⟩))
  go_ret
  exact ⟨by first | rfl | (simp; done) | (simp [*]; done), by repeat (first | exact Drawn0.refl _ | apply Drawn0.step)⟩
 ·
  rw [if_neg c3] at H
  have c3b0 : (t129 == 4) = false := beq_eq_false_iff_ne.mpr c3
  have c3b1 : (t129 != 4) = true := bne_iff_ne.mpr c3
  by_cases c4 : t129 = 0
  ·
   rw [if_pos c4] at H
   have c4b0 : (t129 == 0) = true := beq_iff_eq.mpr c4
   have c4b1 : (t129 != 0) = false := bne_eq_false_iff_eq.mpr c4
   clear c4
   obtain rfl := Option.some.inj H
   go_enter Try.func24, Try.ntmps24
   go_wp2_with (first | ((with_reducible refine zoq (f := 23) rfl ?_); refine goesL_ (some 4) rfl rfl Try.func23 (by kernel_rfl) rfl #[.int .u64 a0] rfl (by (try simp only [List.map_toArray, List.map_cons, List.map_nil]); first | done | rfl | (simp only [List.length_drop, List.length_take]; rfl)) ?_; (with_reducible refine (float_Kind.calls k a0 t129 _ A2.out).mono ?_); rintro e w' ⟨rfl, ⟨nd, rfl⟩⟩; refine ⟨_, rfl, ?_⟩))
   go_ret
   exact ⟨by first | rfl | (simp; done) | (simp [*]; done), by repeat (first | exact Drawn0.refl _ | apply Drawn0.step)⟩
  ·
   rw [if_neg c4] at H
   have c4b0 : (t129 == 0) = false := beq_eq_false_iff_ne.mpr c4
   have c4b1 : (t129 != 0) = true := bne_iff_ne.mpr c4
   by_cases c5 : t129 = 3
   ·
    rw [if_pos c5] at H
    have c5b0 : (t129 == 3) = true := beq_iff_eq.mpr c5
    have c5b1 : (t129 != 3) = false := bne_eq_false_iff_eq.mpr c5
    clear c5
    by_cases c6 : a0 = 9218868437227405312
    ·
     rw [if_pos c6] at H
     have c6b0 : (a0 == 9218868437227405312) = true := beq_iff_eq.mpr c6
     have c6b1 : (a0 != 9218868437227405312) = false := bne_eq_false_iff_eq.mpr c6
     clear c6
     obtain rfl := Option.some.inj H
     go_enter Try.func24, Try.ntmps24
     go_wp2_with (first | ((with_reducible refine zoq (f := 23) rfl ?_); refine goesL_ (some 4) rfl rfl Try.func23 (by kernel_rfl) rfl #[.int .u64 a0] rfl (by (try simp only [List.map_toArray, List.map_cons, List.map_nil]); first | done | rfl | (simp only [List.length_drop, List.length_take]; rfl)) ?_; (with_reducible refine (float_Kind.calls k a0 t129 _ A2.out).mono ?_); rintro e w' ⟨rfl, ⟨nd, rfl⟩⟩; refine ⟨_, rfl, ?_⟩))
     go_ret
     exact ⟨by first | rfl | (simp; done) | (simp [*]; done), by repeat (first | exact Drawn0.refl _ | apply Drawn0.step)⟩
    ·
     rw [if_neg c6] at H
     have c6b0 : (a0 == 9218868437227405312) = false := beq_eq_false_iff_ne.mpr c6
     have c6b1 : (a0 != 9218868437227405312) = true := bne_iff_ne.mpr c6
     by_cases c7 : a0 ≥ 9223372036854775808
     ·
      rw [if_pos c7] at H
      have c7b0 : decide (9223372036854775808 ≤ a0) = true := decide_eq_true c7
      clear c7
      obtain rfl := Option.some.inj H
      go_enter Try.func24, Try.ntmps24
      go_wp2_with (first | ((with_reducible refine zoq (f := 23) rfl ?_); refine goesL_ (some 4) rfl rfl Try.func23 (by kernel_rfl) rfl #[.int .u64 a0] rfl (by (try simp only [List.map_toArray, List.map_cons, List.map_nil]); first | done | rfl | (simp only [List.length_drop, List.length_take]; rfl)) ?_; (with_reducible refine (float_Kind.calls k a0 t129 _ A2.out).mono ?_); rintro e w' ⟨rfl, ⟨nd, rfl⟩⟩; refine ⟨_, rfl, ?_⟩))
      go_ret
      exact ⟨by first | rfl | (simp; done) | (simp [*]; done), by repeat (first | exact Drawn0.refl _ | apply Drawn0.step)⟩
     ·
      rw [if_neg c7] at H
      have c7b0 : decide (9223372036854775808 ≤ a0) = false := decide_eq_false c7
      clear c7
      obtain rfl := Option.some.inj H
      go_enter Try.func24, Try.ntmps24
      go_wp2_with (first | ((with_reducible refine zoq (f := 23) rfl ?_); refine goesL_ (some 4) rfl rfl Try.func23 (by kernel_rfl) rfl #[.int .u64 a0] rfl (by (try simp only [List.map_toArray, List.map_cons, List.map_nil]); first | done | rfl | (simp only [List.length_drop, List.length_take]; rfl)) ?_; (with_reducible refine (float_Kind.calls k a0 t129 _ A2.out).mono ?_); rintro e w' ⟨rfl, ⟨nd, rfl⟩⟩; refine ⟨_, rfl, ?_⟩))
      go_ret
      exact ⟨by first | rfl | (simp; done) | (simp [*]; done), by repeat (first | exact Drawn0.refl _ | apply Drawn0.step)⟩
   ·
    rw [if_neg c5] at H
    have c5b0 : (t129 == 3) = false := beq_eq_false_iff_ne.mpr c5
    have c5b1 : (t129 != 3) = true := bne_iff_ne.mpr c5
    by_cases c8 : a0 ≥ 9223372036854775808
    ·
     rw [if_pos c8] at H
     have c8b0 : decide (9223372036854775808 ≤ a0) = true := decide_eq_true c8
     clear c8
     obtain rfl := Option.some.inj H
     go_enter Try.func24, Try.ntmps24
     go_wp2_with (first | ((with_reducible refine zoq (f := 23) rfl ?_); refine goesL_ (some 4) rfl rfl Try.func23 (by kernel_rfl) rfl #[.int .u64 a0] rfl (by (try simp only [List.map_toArray, List.map_cons, List.map_nil]); first | done | rfl | (simp only [List.length_drop, List.length_take]; rfl)) ?_; (with_reducible refine (float_Kind.calls k a0 t129 _ A2.out).mono ?_); rintro e w' ⟨rfl, ⟨nd, rfl⟩⟩; refine ⟨_, rfl, ?_⟩))
     go_ret
     exact ⟨by first | rfl | (simp; done) | (simp [*]; done), by repeat (first | exact Drawn0.refl _ | apply Drawn0.step)⟩
    ·
     rw [if_neg c8] at H
     have c8b0 : decide (9223372036854775808 ≤ a0) = false := decide_eq_false c8
     clear c8
     obtain rfl := Option.some.inj H
     go_enter Try.func24, Try.ntmps24
     go_wp2_with (first | ((with_reducible refine zoq (f := 23) rfl ?_); refine goesL_ (some 4) rfl rfl Try.func23 (by kernel_rfl) rfl #[.int .u64 a0] rfl (by (try simp only [List.map_toArray, List.map_cons, List.map_nil]); first | done | rfl | (simp only [List.length_drop, List.length_take]; rfl)) ?_; (with_reducible refine (float_Kind.calls k a0 t129 _ A2.out).mono ?_); rintro e w' ⟨rfl, ⟨nd, rfl⟩⟩; refine ⟨_, rfl, ?_⟩))
     go_ret
     exact ⟨by first | rfl | (simp; done) | (simp [*]; done), by repeat (first | exact Drawn0.refl _ | apply Drawn0.step)⟩

/-! ### float_Neg: function 32 -/
def float_Neg.f (k : Nat) (a0 : Int) : Option (Int) := (float_Kind.f k a0).bind fun t130 => (if t130 = 4 then (some 9221120237041090560) else (some (Go.bits .xor .u64 a0 9223372036854775808)))
theorem float_Neg.mono : ∀ a0 k, LeO (float_Neg.f k a0) (float_Neg.f (k + 1) a0) := by
 intro a0 k
 unfold float_Neg.f
 repeat' first
   | (with_reducible exact float_Kind.mono _ _)
   | (with_reducible exact LeO.refl _)
   | (with_reducible exact LeO.none _)
   | (with_reducible refine LeO.ite ?_ ?_)
   | (with_reducible refine LeO.bind ?_ (fun _ => ?_))
   | exact float_Kind.mono _ _
   | exact LeO.none _
   | refine LeO.ite ?_ ?_
   | refine LeO.bind ?_ (fun _ => ?_)
set_option maxHeartbeats 8000000 in
set_option maxRecDepth 100000 in
theorem float_Neg.calls (k : Nat) (a0 : Int) (r : Int) (w : World) (h : float_Neg.f k a0 = some r) :
  Calls Try.prog 32 #[.int .u64 a0] w fun e w' => e = .returned (.int .u64 r) ∧ Drawn0 w w' := by
 have H : ((float_Kind.f k a0).bind fun t130 => (if t130 = 4 then (some 9221120237041090560) else (some (Go.bits .xor .u64 a0 9223372036854775808)))) = some r := h
 clear h
 replace H := Option.bind_eq_some_iff.mp H
 obtain ⟨t130, A20, H⟩ := H
 replace H : (if t130 = 4 then (some 9221120237041090560) else (some (Go.bits .xor .u64 a0 9223372036854775808))) = some r := H
 have A2 := zA A20
 clear A20
 by_cases c3 : t130 = 4
 ·
  rw [if_pos c3] at H
  have c3b0 : (t130 == 4) = true := beq_iff_eq.mpr c3
  have c3b1 : (t130 != 4) = false := bne_eq_false_iff_eq.mpr c3
  clear c3
  obtain rfl := Option.some.inj H
  go_enter Try.func32, Try.ntmps32
  go_wp2_with (first | ((with_reducible refine zoq (f := 23) rfl ?_); refine goesL_ (some 4) rfl rfl Try.func23 (by kernel_rfl) rfl #[.int .u64 a0] rfl (by (try simp only [List.map_toArray, List.map_cons, List.map_nil]); first | done | rfl | (simp only [List.length_drop, List.length_take]; rfl)) ?_; (with_reducible refine (float_Kind.calls k a0 t130 _ A2.out).mono ?_); rintro e w' ⟨rfl, ⟨nd, rfl⟩⟩; refine ⟨_, rfl, ?_⟩))
  go_ret
  exact ⟨by first | rfl | (simp; done) | (simp [*]; done), by repeat (first | exact Drawn0.refl _ | apply Drawn0.step)⟩
 ·
  rw [if_neg c3] at H
  have c3b0 : (t130 == 4) = false := beq_eq_false_iff_ne.mpr c3
  have c3b1 : (t130 != 4) = true := bne_iff_ne.mpr c3
  obtain rfl := Option.some.inj H
  go_enter Try.func32, Try.ntmps32
  go_wp2_with (first | ((with_reducible refine zoq (f := 23) rfl ?_); refine goesL_ (some 4) rfl rfl Try.func23 (by kernel_rfl) rfl #[.int .u64 a0] rfl (by (try simp only [List.map_toArray, List.map_cons, List.map_nil]); first | done | rfl | (simp only [List.length_drop, List.length_take]; rfl)) ?_; (with_reducible refine (float_Kind.calls k a0 t130 _ A2.out).mono ?_); rintro e w' ⟨rfl, ⟨nd, rfl⟩⟩; refine ⟨_, rfl, ?_⟩))
  go_ret
  exact ⟨by first | rfl | (simp; done) | (simp [*]; done), by repeat (first | exact Drawn0.refl _ | apply Drawn0.step)⟩

/-! ### float_Prev: function 25 -/
def float_Prev.f (k : Nat) (a0 : Int) : Option (Int) := (float_Neg.f k a0).bind fun t131 => ((float_Next.f k t131).bind fun t132 => ((float_Neg.f k t132).bind fun t133 => (some t133)))
theorem float_Prev.mono : ∀ a0 k, LeO (float_Prev.f k a0) (float_Prev.f (k + 1) a0) := by
 intro a0 k
 unfold float_Prev.f
 repeat' first
   | (with_reducible exact float_Neg.mono _ _)
   | (with_reducible exact float_Next.mono _ _)
   | (with_reducible exact LeO.refl _)
   | (with_reducible exact LeO.none _)
   | (with_reducible refine LeO.ite ?_ ?_)
   | (with_reducible refine LeO.bind ?_ (fun _ => ?_))
   | exact float_Neg.mono _ _
   | exact float_Next.mono _ _
   | exact LeO.none _
   | refine LeO.ite ?_ ?_
   | refine LeO.bind ?_ (fun _ => ?_)
set_option maxHeartbeats 8000000 in
set_option maxRecDepth 100000 in
theorem float_Prev.calls (k : Nat) (a0 : Int) (r : Int) (w : World) (h : float_Prev.f k a0 = some r) :
  Calls Try.prog 25 #[.int .u64 a0] w fun e w' => e = .returned (.int .u64 r) ∧ Drawn0 w w' := by
 have H : ((float_Neg.f k a0).bind fun t131 => ((float_Next.f k t131).bind fun t132 => ((float_Neg.f k t132).bind fun t133 => (some t133)))) = some r := h
 clear h
 replace H := Option.bind_eq_some_iff.mp H
 obtain ⟨t131, A20, H⟩ := H
 replace H : ((float_Next.f k t131).bind fun t132 => ((float_Neg.f k t132).bind fun t133 => (some t133))) = some r := H
 have A2 := zA A20
 clear A20
 replace H := Option.bind_eq_some_iff.mp H
 obtain ⟨t132, A30, H⟩ := H
 replace H : ((float_Neg.f k t132).bind fun t133 => (some t133)) = some r := H
 have A3 := zA A30
 clear A30
 replace H := Option.bind_eq_some_iff.mp H
 obtain ⟨t133, A40, H⟩ := H
 replace H : (some t133) = some r := H
 have A4 := zA A40
 clear A40
 obtain rfl := Option.some.inj H
 go_enter Try.func25, Try.ntmps25
 go_wp2_with (first | ((with_reducible refine zoq (f := 32) rfl ?_); refine goesL_ (some 4) rfl rfl Try.func32 (by kernel_rfl) rfl #[.int .u64 a0] rfl (by (try simp only [List.map_toArray, List.map_cons, List.map_nil]); first | done | rfl | (simp only [List.length_drop, List.length_take]; rfl)) ?_; (with_reducible refine (float_Neg.calls k a0 t131 _ A2.out).mono ?_); rintro e w' ⟨rfl, ⟨nd, rfl⟩⟩; refine ⟨_, rfl, ?_⟩) | ((with_reducible refine zoq (f := 24) rfl ?_); refine goesL_ (some 5) rfl rfl Try.func24 (by kernel_rfl) rfl #[.int .u64 t131] rfl (by (try simp only [List.map_toArray, List.map_cons, List.map_nil]); first | done | rfl | (simp only [List.length_drop, List.length_take]; rfl)) ?_; (with_reducible refine (float_Next.calls k t131 t132 _ A3.out).mono ?_); rintro e w' ⟨rfl, ⟨nd, rfl⟩⟩; refine ⟨_, rfl, ?_⟩) | ((with_reducible refine zoq (f := 32) rfl ?_); refine goesL_ (some 6) rfl rfl Try.func32 (by kernel_rfl) rfl #[.int .u64 t132] rfl (by (try simp only [List.map_toArray, List.map_cons, List.map_nil]); first | done | rfl | (simp only [List.length_drop, List.length_take]; rfl)) ?_; (with_reducible refine (float_Neg.calls k t132 t133 _ A4.out).mono ?_); rintro e w' ⟨rfl, ⟨nd, rfl⟩⟩; refine ⟨_, rfl, ?_⟩))
 go_ret
 exact ⟨by first | rfl | (simp; done) | (simp [*]; done), by repeat (first | exact Drawn0.refl _ | apply Drawn0.step)⟩

/-! ### float_Split: function 26 -/
def float_Split.j0 : Nat → Int → Bool → Int → Int → Bool → Option (Bool × Int × Int)
 | 0, _, _, _, _, _ => none
 | k + 1, x0, x5, x6, x12, x13 => if x13 = true then (some (x5, x6, (-1074))) else (if x12 = 2 then (some (x5, Go.bits .or .u64 4503599627370496 x6, wrap64 ((wrap64 (Go.bits .and .u64 (x0 / 4503599627370496) 2047)) - 1075))) else (some (x5, 0, 0)))
def float_Split.f (k : Nat) (a0 : Int) : Option (Bool × Int × Int) := (float_Kind.f k a0).bind fun t134 => (if t134 = 0 then (float_Split.j0 k a0 (decide (a0 ≥ 9223372036854775808)) (Go.bits .and .u64 a0 4503599627370495) t134 (t134 == 0)) else (float_Split.j0 k a0 (decide (a0 ≥ 9223372036854775808)) (Go.bits .and .u64 a0 4503599627370495) t134 (t134 == 1)))
theorem float_Split.mono_l : ∀ k, (∀ y0 y1 y2 y3 y4, LeO (float_Split.j0 k y0 y1 y2 y3 y4) (float_Split.j0 (k + 1) y0 y1 y2 y3 y4))
 | 0 => fun _ _ _ _ _ r h => by simp [float_Split.j0] at h
 | k + 1 => by
  have ih0 := float_Split.mono_l k
  ·
   intro y0 y1 y2 y3 y4
   unfold float_Split.j0
   repeat' first
   | (with_reducible exact ih0 _ _ _ _ _)
   | (with_reducible exact float_Kind.mono _ _)
   | (with_reducible exact LeO.refl _)
   | (with_reducible exact LeO.none _)
   | (with_reducible refine LeO.ite ?_ ?_)
   | (with_reducible refine LeO.bind ?_ (fun _ => ?_))
   | exact ih0 _ _ _ _ _
   | exact float_Kind.mono _ _
   | exact LeO.none _
   | refine LeO.ite ?_ ?_
   | refine LeO.bind ?_ (fun _ => ?_)
theorem float_Split.mono : ∀ a0 k, LeO (float_Split.f k a0) (float_Split.f (k + 1) a0) := by
 intro a0 k
 have ih0 := float_Split.mono_l k
 unfold float_Split.f
 repeat' first
   | (with_reducible exact ih0 _ _ _ _ _)
   | (with_reducible exact float_Kind.mono _ _)
   | (with_reducible exact LeO.refl _)
   | (with_reducible exact LeO.none _)
   | (with_reducible refine LeO.ite ?_ ?_)
   | (with_reducible refine LeO.bind ?_ (fun _ => ?_))
   | exact ih0 _ _ _ _ _
   | exact float_Kind.mono _ _
   | exact LeO.none _
   | refine LeO.ite ?_ ?_
   | refine LeO.bind ?_ (fun _ => ?_)
set_option maxHeartbeats 8000000 in
set_option maxRecDepth 100000 in
theorem float_Split.calls (k : Nat) (a0 : Int) (r1 : Bool) (r2 : Int) (r3 : Int) (w : World) (h : float_Split.f k a0 = some (r1, r2, r3)) :
  Calls Try.prog 26 #[.int .u64 a0] w fun e w' => e = .returned (.tuple #[.bool r1, .int .u64 r2, .int .i64 r3]) ∧ Drawn0 w w' := by
 have H : ((float_Kind.f k a0).bind fun t134 => (if t134 = 0 then (float_Split.j0 k a0 (decide (a0 ≥ 9223372036854775808)) (Go.bits .and .u64 a0 4503599627370495) t134 (t134 == 0)) else (float_Split.j0 k a0 (decide (a0 ≥ 9223372036854775808)) (Go.bits .and .u64 a0 4503599627370495) t134 (t134 == 1)))) = some (r1, r2, r3) := h
 clear h
 replace H := Option.bind_eq_some_iff.mp H
 obtain ⟨t134, A20, H⟩ := H
 replace H : (if t134 = 0 then (float_Split.j0 k a0 (decide (a0 ≥ 9223372036854775808)) (Go.bits .and .u64 a0 4503599627370495) t134 (t134 == 0)) else (float_Split.j0 k a0 (decide (a0 ≥ 9223372036854775808)) (Go.bits .and .u64 a0 4503599627370495) t134 (t134 == 1))) = some (r1, r2, r3) := H
 have A2 := zA A20
 clear A20
 have HC3 := zA H
 clear H
 go_enter Try.func26, Try.ntmps26
 go_upto_if 13 with (first | ((with_reducible refine zoq (f := 23) rfl ?_); refine goesL_ (some 12) rfl rfl Try.func23 (by kernel_rfl) rfl #[.int .u64 a0] rfl (by (try simp only [List.map_toArray, List.map_cons, List.map_nil]); first | done | rfl | (simp only [List.length_drop, List.length_take]; rfl)) ?_; (with_reducible refine (float_Kind.calls k a0 t134 _ A2.out).mono ?_); rintro e w' ⟨rfl, ⟨nd, rfl⟩⟩; refine ⟨_, rfl, ?_⟩))
 (try simp only [Act.put, List.setIfInBounds_toArray, List.set_cons_zero, List.set_cons_succ])
 go_cut [13] (fun v13 wc => ∃ (kq : Nat) (x13_2 : Bool), v13 = .bool x13_2 ∧ Aside0 (float_Split.j0 kq a0 (decide (a0 ≥ 9223372036854775808)) (Go.bits .and .u64 a0 4503599627370495) t134 x13_2 = some (r1, r2, r3)) ∧ Aside0 (kq ≤ k) ∧ Drawn0 w wc)
 case first =>
  have H := HC3.out
  clear HC3
  by_cases c4 : t134 = 0
  ·
   rw [if_pos c4] at H
   have c4b0 : (t134 == 0) = true := beq_iff_eq.mpr c4
   have c4b1 : (t134 != 0) = false := bne_eq_false_iff_eq.mpr c4
   clear c4
   (first | rw [c4b0] | (simp only [i64_w, i32_w]; rw [c4b0]) | skip)
   have H' := zA H
   clear H
   go_wp2
   go_meet
   case rel => exact ⟨_, ((t134 == 0)), (by first | rfl | (simp; done) | (simp [*]; done)), H', ⟨by first | omega | exact Nat.le_refl _⟩, by repeat (first | exact Drawn0.refl _ | apply Drawn0.step)⟩
  ·
   rw [if_neg c4] at H
   have c4b0 : (t134 == 0) = false := beq_eq_false_iff_ne.mpr c4
   have c4b1 : (t134 != 0) = true := bne_iff_ne.mpr c4
   (first | rw [c4b0] | (simp only [i64_w, i32_w]; rw [c4b0]) | skip)
   have H' := zA H
   clear H
   go_wp2
   go_meet
   case rel => exact ⟨_, ((t134 == 1)), (by first | rfl | (simp; done) | (simp [*]; done)), H', ⟨by first | omega | exact Nat.le_refl _⟩, by repeat (first | exact Drawn0.refl _ | apply Drawn0.step)⟩
 case rest =>
  clear HC3
  try clear c2
  try clear p2
  try clear c4
  try clear c4b0
  try clear c4b1
  obtain ⟨kq, x13_2, rfl, HA, HJ2, ⟨mc2, rfl⟩⟩ := hcut
  cases kq with
  | zero => exact absurd HA.out (by simp [float_Split.j0])
  | succ kj2 =>
   have H := HA.out
   clear HA
   simp only [float_Split.j0] at H
   by_cases c5 : x13_2 = true
   ·
    subst c5
    have H1 : (some ((decide (a0 ≥ 9223372036854775808)), (Go.bits .and .u64 a0 4503599627370495), (-1074))) = some (r1, r2, r3) := by rw [if_pos rfl] at H; exact H
    clear H
    have H := H1
    clear H1
    simp only [Option.some.injEq, Prod.mk.injEq] at H
    obtain ⟨rfl, rfl, rfl⟩ := H
    go_wp2
    go_ret3
    exact ⟨by first | rfl | (simp; done) | (simp [*]; done), by repeat (first | exact Drawn0.refl _ | apply Drawn0.step)⟩
   ·
    replace c5 := Bool.eq_false_iff.mpr c5
    subst c5
    have H1 : (if t134 = 2 then (some ((decide (a0 ≥ 9223372036854775808)), Go.bits .or .u64 4503599627370496 (Go.bits .and .u64 a0 4503599627370495), wrap64 ((wrap64 (Go.bits .and .u64 (a0 / 4503599627370496) 2047)) - 1075))) else (some ((decide (a0 ≥ 9223372036854775808)), 0, 0))) = some (r1, r2, r3) := by rw [if_neg (show ¬ (false = true) by decide)] at H; exact H
    clear H
    have H := H1
    clear H1
    by_cases c6 : t134 = 2
    ·
     rw [if_pos c6] at H
     have c6b0 : (t134 == 2) = true := beq_iff_eq.mpr c6
     have c6b1 : (t134 != 2) = false := bne_eq_false_iff_eq.mpr c6
     clear c6
     simp only [Option.some.injEq, Prod.mk.injEq] at H
     obtain ⟨rfl, rfl, rfl⟩ := H
     go_wp2
     go_ret3
     exact ⟨by first | rfl | (simp; done) | (simp [*]; done), by repeat (first | exact Drawn0.refl _ | apply Drawn0.step)⟩
    ·
     rw [if_neg c6] at H
     have c6b0 : (t134 == 2) = false := beq_eq_false_iff_ne.mpr c6
     have c6b1 : (t134 != 2) = true := bne_iff_ne.mpr c6
     simp only [Option.some.injEq, Prod.mk.injEq] at H
     obtain ⟨rfl, rfl, rfl⟩ := H
     go_wp2
     go_ret3
     exact ⟨by first | rfl | (simp; done) | (simp [*]; done), by repeat (first | exact Drawn0.refl _ | apply Drawn0.step)⟩

end Go.Proofs.Ytbejjlecpcphoaa.P
