-- Written by a program of this session's (a turned print), not by hand.
import Derived.Test.YtbejjlecpcphoaaPx0
import Derived.Test.YtbejjlecpcphoaaPx3
namespace Go.Proofs.Ytbejjlecpcphoaa.P
open Go.RowKit Go.Proofs.YtbejjlecpcphoaaW.PrintWords Go.Proofs.YtbejjlecpcphoaaW.PrintLast Go.Proofs.YtbejjlecpcphoaaW.PrintMore
attribute [local go_sem] max2_int min2_int max_two min_two max_three min_three max_four min_four   -- for this text's walks alone
set_option linter.unusedVariables false
set_option linter.unusedSimpArgs false

/-! ### float_far: function 99 -/
def float_far.j0 : Nat → Bool → Int → Bool → Option (Int × Bool)
 | 0, _, _, _ => none
 | k + 1, x0, x2, x8 => if x8 = true then ((float_pack.f k x0 0 0).bind fun t104 => (some (t104, true))) else (if x2 > 2000 then ((float_pack.f k x0 4503599627370496 2047).bind fun t105 => (some (t105, true))) else (some (0, false)))
def float_far.f (k : Nat) (a0 : Bool) (a1 : Int) (a2 : Int) : Option (Int × Bool) := if a1 = 0 then (float_far.j0 k a0 a2 true) else (if a2 < (-10000) then (float_far.j0 k a0 a2 (decide ((wrap64 (a2 + a1)) < (-2000)))) else (float_far.j0 k a0 a2 false))
theorem float_far.mono_l : ∀ k, (∀ y0 y1 y2, LeO (float_far.j0 k y0 y1 y2) (float_far.j0 (k + 1) y0 y1 y2))
 | 0 => fun _ _ _ r h => by simp [float_far.j0] at h
 | k + 1 => by
  have ih0 := float_far.mono_l k
  ·
   intro y0 y1 y2
   unfold float_far.j0
   repeat' first
   | (with_reducible exact ih0 _ _ _)
   | (with_reducible exact float_pack.mono _ _ _ _)
   | (with_reducible exact LeO.refl _)
   | (with_reducible exact LeO.none _)
   | (with_reducible refine LeO.ite ?_ ?_)
   | (with_reducible refine LeO.bind ?_ (fun _ => ?_))
   | exact ih0 _ _ _
   | exact float_pack.mono _ _ _ _
   | exact LeO.none _
   | refine LeO.ite ?_ ?_
   | refine LeO.bind ?_ (fun _ => ?_)
theorem float_far.mono : ∀ a0 a1 a2 k, LeO (float_far.f k a0 a1 a2) (float_far.f (k + 1) a0 a1 a2) := by
 intro a0 a1 a2 k
 have ih0 := float_far.mono_l k
 unfold float_far.f
 repeat' first
   | (with_reducible exact ih0 _ _ _)
   | (with_reducible exact float_pack.mono _ _ _ _)
   | (with_reducible exact LeO.refl _)
   | (with_reducible exact LeO.none _)
   | (with_reducible refine LeO.ite ?_ ?_)
   | (with_reducible refine LeO.bind ?_ (fun _ => ?_))
   | exact ih0 _ _ _
   | exact float_pack.mono _ _ _ _
   | exact LeO.none _
   | refine LeO.ite ?_ ?_
   | refine LeO.bind ?_ (fun _ => ?_)
set_option maxHeartbeats 8000000 in
set_option maxRecDepth 100000 in
theorem float_far.calls (k : Nat) (a0 : Bool) (a1 : Int) (a2 : Int) (r1 : Int) (r2 : Bool) (w : World) (h : float_far.f k a0 a1 a2 = some (r1, r2)) :
  Calls Try.prog 99 #[.bool a0, .int .i64 a1, .int .i64 a2] w fun e w' => e = .returned (.tuple #[.int .u64 r1, .bool r2]) ∧ Drawn0 w w' := by
 have H : (if a1 = 0 then (float_far.j0 k a0 a2 true) else (if a2 < (-10000) then (float_far.j0 k a0 a2 (decide ((wrap64 (a2 + a1)) < (-2000)))) else (float_far.j0 k a0 a2 false))) = some (r1, r2) := h
 clear h
 have HC4 := zA H
 clear H
 go_enter Try.func99, Try.ntmps99
 go_upto_region 1 with (fail)
 go_cut [8] (fun v8 wc => ∃ (kq : Nat) (x8_3 : Bool), v8 = .bool x8_3 ∧ Aside0 (float_far.j0 kq a0 a2 x8_3 = some (r1, r2)) ∧ Aside0 (kq ≤ k) ∧ Drawn0 w wc)
 case first =>
  have H := HC4.out
  clear HC4
  by_cases c5 : a1 = 0
  ·
   rw [if_pos c5] at H
   have c5b0 : (a1 == 0) = true := beq_iff_eq.mpr c5
   have c5b1 : (a1 != 0) = false := bne_eq_false_iff_eq.mpr c5
   clear c5
   (first | rw [c5b0] | (simp only [i64_w, i32_w]; rw [c5b0]) | skip)
   have H' := zA H
   clear H
   go_wp2
   go_meet
   case rel => exact ⟨_, (true), (by first | rfl | (simp; done) | (simp [*]; done)), H', ⟨by first | omega | exact Nat.le_refl _⟩, by repeat (first | exact Drawn0.refl _ | apply Drawn0.step)⟩
  ·
   rw [if_neg c5] at H
   have c5b0 : (a1 == 0) = false := beq_eq_false_iff_ne.mpr c5
   have c5b1 : (a1 != 0) = true := bne_iff_ne.mpr c5
   (first | rw [c5b0] | (simp only [i64_w, i32_w]; rw [c5b0]) | skip)
   by_cases c6 : a2 < (-10000)
   ·
    rw [if_pos c6] at H
    have c6b0 : decide (a2 < (-10000)) = true := decide_eq_true c6
    clear c6
    have H' := zA H
    clear H
    go_wp2
    go_meet
    case rel => exact ⟨_, (decide ((wrap64 (a2 + a1)) < (-2000))), (by first | rfl | (simp; done) | (simp [*]; done)), H', ⟨by first | omega | exact Nat.le_refl _⟩, by repeat (first | exact Drawn0.refl _ | apply Drawn0.step)⟩
   ·
    rw [if_neg c6] at H
    have c6b0 : decide (a2 < (-10000)) = false := decide_eq_false c6
    clear c6
    have H' := zA H
    clear H
    go_wp2
    go_meet
    case rel => exact ⟨_, (false), (by first | rfl | (simp; done) | (simp [*]; done)), H', ⟨by first | omega | exact Nat.le_refl _⟩, by repeat (first | exact Drawn0.refl _ | apply Drawn0.step)⟩
 case rest =>
  clear HC4
  try clear p2
  try clear c5
  try clear c5b0
  try clear c5b1
  try clear c6
  try clear c6b0
  try clear p6
  obtain ⟨kq, x8_3, rfl, HA, HJ3, ⟨mc3, rfl⟩⟩ := hcut
  cases kq with
  | zero => exact absurd HA.out (by simp [float_far.j0])
  | succ kj3 =>
   have H := HA.out
   clear HA
   simp only [float_far.j0] at H
   by_cases c7 : x8_3 = true
   ·
    subst c7
    have H1 : ((float_pack.f kj3 a0 0 0).bind fun t104 => (some (t104, true))) = some (r1, r2) := by rw [if_pos rfl] at H; exact H
    clear H
    have H := H1
    clear H1
    replace H := Option.bind_eq_some_iff.mp H
    obtain ⟨t104, A80, H⟩ := H
    replace H : (some (t104, true)) = some (r1, r2) := H
    have A8 := zA A80
    clear A80
    simp only [Option.some.injEq, Prod.mk.injEq] at H
    obtain ⟨rfl, rfl⟩ := H
    go_wp2_with (first | ((with_reducible refine zoq (f := 101) rfl ?_); refine goesL_ (some 22) rfl rfl Try.func101 (by kernel_rfl) rfl #[.bool a0, .int .u64 0, .int .i64 0] rfl (by (try simp only [List.map_toArray, List.map_cons, List.map_nil]); first | done | rfl | (simp only [List.length_drop, List.length_take]; rfl)) ?_; (with_reducible refine (float_pack.calls kj3 a0 0 0 t104 _ A8.out).mono ?_); rintro e w' ⟨rfl, ⟨nd, rfl⟩⟩; refine ⟨_, rfl, ?_⟩))
    go_ret2
    exact ⟨by first | rfl | (simp; done) | (simp [*]; done), by repeat (first | exact Drawn0.refl _ | apply Drawn0.step)⟩
   ·
    replace c7 := Bool.eq_false_iff.mpr c7
    subst c7
    have H1 : (if a2 > 2000 then ((float_pack.f kj3 a0 4503599627370496 2047).bind fun t105 => (some (t105, true))) else (some (0, false))) = some (r1, r2) := by rw [if_neg (show ¬ (false = true) by decide)] at H; exact H
    clear H
    have H := H1
    clear H1
    by_cases c9 : a2 > 2000
    ·
     rw [if_pos c9] at H
     have c9b0 : decide (2000 < a2) = true := decide_eq_true c9
     clear c9
     replace H := Option.bind_eq_some_iff.mp H
     obtain ⟨t105, A100, H⟩ := H
     replace H : (some (t105, true)) = some (r1, r2) := H
     have A10 := zA A100
     clear A100
     simp only [Option.some.injEq, Prod.mk.injEq] at H
     obtain ⟨rfl, rfl⟩ := H
     go_wp2_with (first | ((with_reducible refine zoq (f := 101) rfl ?_); refine goesL_ (some 27) rfl rfl Try.func101 (by kernel_rfl) rfl #[.bool a0, .int .u64 4503599627370496, .int .i64 2047] rfl (by (try simp only [List.map_toArray, List.map_cons, List.map_nil]); first | done | rfl | (simp only [List.length_drop, List.length_take]; rfl)) ?_; (with_reducible refine (float_pack.calls kj3 a0 4503599627370496 2047 t105 _ A10.out).mono ?_); rintro e w' ⟨rfl, ⟨nd, rfl⟩⟩; refine ⟨_, rfl, ?_⟩))
     go_ret2
     exact ⟨by first | rfl | (simp; done) | (simp [*]; done), by repeat (first | exact Drawn0.refl _ | apply Drawn0.step)⟩
    ·
     rw [if_neg c9] at H
     have c9b0 : decide (2000 < a2) = false := decide_eq_false c9
     clear c9
     simp only [Option.some.injEq, Prod.mk.injEq] at H
     obtain ⟨rfl, rfl⟩ := H
     go_wp2
     go_ret2
     exact ⟨by first | rfl | (simp; done) | (simp [*]; done), by repeat (first | exact Drawn0.refl _ | apply Drawn0.step)⟩

/-! ### float_unit: function 100 -/
def float_unit.f (a0 : Int) (a1 : Int) : Option (Int) := some (mx (wrap64 ((wrap64 (a1 + a0)) - 53)) (-1074))
set_option maxHeartbeats 8000000 in
set_option maxRecDepth 100000 in
theorem float_unit.calls (a0 : Int) (a1 : Int) (r : Int) (w : World) (h : float_unit.f a0 a1 = some r) :
  Calls Try.prog 100 #[.int .i64 a0, .int .i64 a1] w fun e w' => e = .returned (.int .i64 r) ∧ Below w.heap.size w w' := by
 have HB := zA (Below.refl w.heap.size w)
 have H : (some (mx (wrap64 ((wrap64 (a1 + a0)) - 53)) (-1074))) = some r := h
 clear h
 obtain ⟨ji3, hji3⟩ : ∃ j_ : Int, (mx (wrap64 ((wrap64 (a1 + a0)) - 53)) (-1074)) = j_ := ⟨_, rfl⟩
 replace H : (some ji3) = some r := by first | (rw [hji3] at H; exact H) | (simp only [hji3] at H ⊢; exact H)
 have hji3_ : (if (wrap64 ((wrap64 (a1 + a0)) - 53)) < (-1074) then (-1074) else (wrap64 ((wrap64 (a1 + a0)) - 53))) = ji3 := hji3
 obtain rfl := Option.some.inj H
 go_enter Try.func100, Try.ntmps100
 go_wp2
 go_ret
 exact ⟨by first | rfl | (simp [errW_none, errW_some] <;> rfl) | (simp only [← hji3]; first | rfl | (simp [errW_none, errW_some] <;> rfl)) | (simp [*, errW_none, errW_some] <;> rfl), by repeat (first | (with_reducible first | exact HB.out | apply zaq | apply zbq | apply zcq) | exact HB.out)⟩

-- NOT PRINTED: function 72 (float_settle)

end Go.Proofs.Ytbejjlecpcphoaa.P
