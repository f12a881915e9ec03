/-
  The reference's Add and Sub: the number nearest to the exact sum.
-/
import Derived.Test.YtbejjlecpcphoaaPx54
import Derived.Test.YtbejjlecpcphoaaPx52
import Derived.Test.YtbejjlecpcphoaaPx53
import Derived.Test.YtbejjlecpcphoaaPx51
import Derived.Test.YtbejjlecpcphoaaPx20
import Derived.Test.YtbejjlecpcphoaaQAT
import Derived.Test.YtbejjlecpcphoaaQF2
import Derived.Test.YtbejjlecpcphoaaQF5
import Derived.Test.YtbejjlecpcphoaaQ1
import Derived.Test.YtbejjlecpcphoaaQ2
namespace Go.Proofs.Ytbejjlecpcphoaa.Q
set_option linter.unusedVariables false
open Go.RowKit Go.Proofs.YtbejjlecpcphoaaW.PrintWords Go.Proofs.YtbejjlecpcphoaaW.PrintLast Go.Proofs.YtbejjlecpcphoaaW.PrintMore
open Go.Proofs.Ytbejjlecpcphoaa.P Go.Proofs.Ytbejjlecpcphoaa.LL Go.Proofs.Ytbejjlecpcphoaa.FM

theorem of_ev (m : Nat) (hm : m < 18446744073709551616) : Ev (fun k => tabardref3_Nat.f k (m : Int)) (limbs m) := by
  have e1 : Int.tmod (m : Int) 4294967296 % 4294967296 = ((m % 4294967296 : Nat) : Int) := by rw [Int.tmod_eq_emod_of_nonneg (Int.natCast_nonneg _)]; omega
  have e2 : (m : Int) / 4294967296 % 4294967296 = ((m / 4294967296 : Nat) : Int) := by omega
  have hl : Lb [((m % 4294967296 : Nat) : Int), ((m / 4294967296 : Nat) : Int)] := Lb.cons (by omega) (by omega) (Lb.cons (by omega) (by omega) lb_nil)
  have hv : val [((m % 4294967296 : Nat) : Int), ((m / 4294967296 : Nat) : Int)] = m := by simp only [val]; omega
  have t := trim_ev hl (by simp)
  rw [hv] at t
  unfold tabardref3_Nat.f tabardref1_Of.f
  rw [e1, e2]
  exact Ev.bind (Ev.bind t (Ev.now _)) (Ev.now _)
theorem mag_lt (x a : Nat) (ha : 66 ≤ a) : mag x < 2 ^ (32 * a) := by
  unfold mag
  have h1 := sM_lt x
  have h2 := sE_bounds x
  have hp := Nat.two_pow_pos (sE x + 1074).toNat
  have h4 : sM x * 2 ^ (sE x + 1074).toNat < 2 ^ 53 * 2 ^ (sE x + 1074).toNat := (Nat.mul_lt_mul_right hp).2 (by simpa using h1)
  rw [← Nat.pow_add] at h4
  exact Nat.lt_of_lt_of_le h4 (Nat.pow_le_pow_right (by decide) (by omega))
theorem exact_ev (x : Nat) : Ev (fun k => tabardref4_Exact.f k (x : Int)) (neg x, limbs (mag x)) := by
  have h1 := sM_lt x
  have h2 := sE_bounds x
  obtain ⟨j, hj⟩ : ∃ j : Nat, sE x + 1074 = (j : Int) := ⟨(sE x + 1074).toNat, by omega⟩
  have w : wrap64 (sE x + 1074) = (j : Int) := by rw [hj]; exact w64 (by omega) (by omega)
  have hl : (limbs (sM x)).length ≤ 2 := limbs_len_le (Nat.lt_of_lt_of_le h1 (by decide))
  have u := up_ev (V := sM x) (by clear w; omega) j (by clear w; omega)
  have em : mag x = sM x * 2 ^ j := by unfold mag; rw [hj, Int.toNat_natCast]
  have en : neg x = decide ((x : Int) ≥ 9223372036854775808) := by unfold neg; rfl
  unfold tabardref4_Exact.f
  rw [em, en]
  refine Ev.bind (rsplit_ev x) (Ev.bind (of_ev (sM x) (by clear w; omega)) ?_)
  rw [w]
  exact Ev.bind u (Ev.now _)
theorem plus_sgn (n1 n2 : Bool) {X Y a : Nat} (ha : a ≤ 1000) (hX : X < 2 ^ (32 * a)) (hY : Y < 2 ^ (32 * a)) : ∃ (s : Bool) (m : Nat), Ev (fun k => tabardref4_Plus.f k n1 (limbs X) n2 (limbs Y)) (s, limbs m) ∧ m < 2 ^ (32 * (a + 1)) ∧ finE (-1074) n1 X n2 Y = if m = 0 then 0 else sgn s (near m (-1074) false) := by
  have l1 : (limbs X).length < 1000000 := Nat.lt_of_le_of_lt (limbs_len_le hX) (by omega)
  have l2 : (limbs Y).length < 1000000 := Nat.lt_of_le_of_lt (limbs_len_le hY) (by omega)
  rw [pow32]
  unfold tabardref4_Plus.f
  by_cases hn : n1 = n2
  · subst hn
    have p := plus_ev (lb_limbs X) (lb_limbs Y) l1 l2
    rw [val_limbs, val_limbs] at p
    refine ⟨n1, X + Y, Ev.congr (fun k => if_pos (beq_self_eq_true n1)) (Ev.bind p (Ev.now _)), by omega, ?_⟩
    by_cases h : X + Y = 0
    · rw [finE_zero _ _ _ h, if_pos h]
    · rw [finE_same _ _ h, if_neg h]
  · have c := cmp_ev (lb_limbs X) (lb_limbs Y) l1 l2
    rw [val_limbs, val_limbs] at c
    by_cases h : Y ≤ X
    · have p := less_ev (lb_limbs X) (lb_limbs Y) l1 (by rw [val_limbs, val_limbs]; exact h)
      rw [val_limbs, val_limbs] at p
      refine ⟨n1, X - Y, Ev.congr (fun k => if_neg (fun hh => hn (eq_of_beq hh))) (Ev.bind c (Ev.congr (fun k => if_pos (cmpN_ge h)) (Ev.bind p (Ev.now _)))), by omega, ?_⟩
      by_cases he : X = Y
      · rw [if_pos (by omega), he, finE_eq _ hn]
      · rw [if_neg (by omega), finE_gt _ hn (by omega)]
    · have p := less_ev (lb_limbs Y) (lb_limbs X) l2 (by rw [val_limbs, val_limbs]; omega)
      rw [val_limbs, val_limbs] at p
      refine ⟨n2, Y - X, Ev.congr (fun k => if_neg (fun hh => hn (eq_of_beq hh))) (Ev.bind c (Ev.congr (fun k => if_neg (cmpN_lt h)) (Ev.bind p (Ev.now _)))), by omega, ?_⟩
      rw [if_neg (by omega), finE_lt _ hn (by omega)]
theorem limbs_nil {m : Nat} : ((limbs m).length : Int) = 0 ↔ m = 0 := by
  constructor
  · intro h
    have : limbs m = [] := List.eq_nil_of_length_eq_zero (by omega)
    have v := val_limbs m
    rw [this] at v; exact v.symm
  · rintro rfl; rw [limbs_zero]; rfl
theorem radd_j2f (x y : Nat) : Ev (fun k => tabardref4_Add.j2 k (x : Int) (y : Int) false) ((finE (-1074) (neg x) (mag x) (neg y) (mag y) : Nat) : Int) := by
  obtain ⟨a, ha⟩ : ∃ a : Nat, a = 66 := ⟨_, rfl⟩
  obtain ⟨s, m, hp, hm, hf⟩ := plus_sgn (neg x) (neg y) (a := a) (by omega) (mag_lt x a (by omega)) (mag_lt y a (by omega))
  have r := round_ev s false (n := m) (Nat.le_trans (limbs_len_le hm) (by omega)) (-1074) (by decide) (by decide)
  rw [hf]
  refine Ev.step (f := fun k => (tabardref4_Exact.f k (x : Int)).bind fun bt896 => ((tabardref4_Exact.f k (y : Int)).bind fun bt900 => ((tabardref4_Plus.f k bt896.1 bt896.2 bt900.1 bt900.2).bind fun bt904 => (if (bt904.2.length : Int) = 0 then (some 0) else ((tabardref3_Round.f k bt904.1 bt904.2 (-1074) false).bind fun t909 => (some t909)))))) (fun k => ?_) ?_
  · simp only [tabardref4_Add.j2]; rw [if_neg (by simp)]
  refine Ev.bind (exact_ev x) (Ev.bind (exact_ev y) (Ev.bind hp ?_))
  by_cases h : m = 0
  · rw [if_pos h]
    exact Ev.congr (fun k => if_pos (limbs_nil.2 h)) (Ev.now _)
  · rw [if_neg h]
    exact Ev.congr (fun k => if_neg (fun hh => h (limbs_nil.1 hh))) (Ev.bind r (Ev.now _))
theorem radd_j2t (x y : Nat) (hx : x = 0 ∨ x = 9223372036854775808) (hy : y = 0 ∨ y = 9223372036854775808) : Ev (fun k => tabardref4_Add.j2 k (x : Int) (y : Int) true) ((if x = y then x else 0 : Nat) : Int) := by
  refine Ev.step (f := fun _ => some ((if x = y then x else 0 : Nat) : Int)) (fun k => ?_) (Ev.now _)
  simp only [tabardref4_Add.j2]
  rw [if_pos trivial]
  rcases hx with rfl | rfl <;> rcases hy with rfl | rfl <;> rfl
theorem kd0_cases {x : Nat} (h : x < 18446744073709551616) (k : kd x = 0) : x = 0 ∨ x = 9223372036854775808 := by
  have := (kd0 x).1 k; omega
theorem radd_ev (x y : Nat) (hx : x < 18446744073709551616) (hy : y < 18446744073709551616) : Ev (fun k => tabardref4_Add.f k (x : Int) (y : Int)) ((addR x y : Nat) : Int) := by
  have rx := kd_range x
  have ry := kd_range y
  have hn : ∀ K J : Int, Ev (fun k => tabardref4_Add.j0 k (x : Int) (y : Int) K J true) ((9221120237041090560 : Nat) : Int) := fun K J => by
    refine Ev.step (f := fun _ => some ((9221120237041090560 : Nat) : Int)) (fun k => ?_) (Ev.now _)
    simp only [tabardref4_Add.j0]; rw [if_pos trivial]; rfl
  have j1t : ∀ K J : Int, Ev (fun k => tabardref4_Add.j1 k (x : Int) (y : Int) K J true) ((9221120237041090560 : Nat) : Int) := fun K J => by
    refine Ev.step (f := fun _ => some ((9221120237041090560 : Nat) : Int)) (fun k => ?_) (Ev.now _)
    simp only [tabardref4_Add.j1]; rw [if_pos trivial]; rfl
  unfold tabardref4_Add.f
  refine Ev.bind (rkind_ev x) (Ev.bind (rkind_ev y) ?_)
  by_cases h4 : kd x = 4
  · rw [addR_nan (Or.inl h4)]
    exact Ev.congr (fun k => if_pos h4) (hn _ _)
  refine Ev.congr (fun k => if_neg h4) ?_
  by_cases g4 : kd y = 4
  · rw [addR_nan (Or.inr g4), show (kd y == 4) = true from by rw [g4]; rfl]
    exact hn _ _
  rw [show (kd y == 4) = false from beq_eq_false_iff_ne.2 g4]
  have j1f : Ev (fun k => tabardref4_Add.j1 k (x : Int) (y : Int) (kd x) (kd y) false) ((addR x y : Nat) : Int) ∨ (kd x = 3 ∧ kd y = 3 ∧ x ≠ y) := by
    by_cases h3 : kd x = 3
    · by_cases hh : kd y = 3 ∧ x ≠ y
      · exact Or.inr ⟨h3, hh⟩
      · left
        rw [addR_inf h3 (by by_cases g3 : kd y = 3; exact Or.inr ⟨g3, Decidable.of_not_not (fun q => hh ⟨g3, q⟩)⟩; exact Or.inl (by omega))]
        refine Ev.step (f := fun _ => some (x : Int)) (fun k => ?_) (Ev.now _)
        simp only [tabardref4_Add.j1]; rw [if_neg (by simp), if_pos h3]
    left
    by_cases g3 : kd y = 3
    · rw [addR_other (by omega) g3]
      refine Ev.step (f := fun _ => some (y : Int)) (fun k => ?_) (Ev.now _)
      simp only [tabardref4_Add.j1]; rw [if_neg (by simp), if_neg h3, if_pos g3]
    by_cases h0 : kd x = 0
    · by_cases g0 : kd y = 0
      · rw [addR_zeros h0 g0]
        refine Ev.step (fun k => ?_) (radd_j2t x y (kd0_cases hx h0) (kd0_cases hy g0))
        simp only [tabardref4_Add.j1]; rw [if_neg (by simp), if_neg h3, if_neg g3, if_pos h0, g0]; rfl
      · rw [addR_fin (by omega) (by omega) (fun hh => g0 hh.2)]
        refine Ev.step (fun k => ?_) (radd_j2f x y)
        simp only [tabardref4_Add.j1]; rw [if_neg (by simp), if_neg h3, if_neg g3, if_pos h0, beq_eq_false_iff_ne.2 g0]
    · rw [addR_fin (by omega) (by omega) (fun hh => h0 hh.1)]
      refine Ev.step (fun k => ?_) (radd_j2f x y)
      simp only [tabardref4_Add.j1]; rw [if_neg (by simp), if_neg h3, if_neg g3, if_neg h0]
  by_cases hi : kd x = 3 ∧ kd y = 3 ∧ x ≠ y
  · rw [addR_inf2 hi.1 hi.2.1 hi.2.2]
    refine Ev.step (fun k => ?_) (j1t (kd x) (kd y))
    simp only [tabardref4_Add.j0]
    rw [if_neg (by simp), if_pos hi.1, if_pos hi.2.1, show ((x : Int) != (y : Int)) = true from bne_iff_ne.2 (fun q => hi.2.2 (by omega))]
  · refine Ev.step (fun k => ?_) (j1f.resolve_right hi)
    simp only [tabardref4_Add.j0]
    rw [if_neg (by simp)]
    by_cases h3 : kd x = 3
    · rw [if_pos h3]
      by_cases g3 : kd y = 3
      · have hxy : x = y := Decidable.of_not_not (fun q => hi ⟨h3, g3, q⟩)
        rw [if_pos g3, show ((x : Int) != (y : Int)) = false from by rw [hxy]; simp]
      · rw [if_neg g3]
    · rw [if_neg h3]
theorem rsub_ev (x y : Nat) (hx : x < 18446744073709551616) (hy : y < 18446744073709551616) : Ev (fun k => tabardref4_Sub.f k (x : Int) (y : Int)) ((addR x (ngt y) : Nat) : Int) := by
  unfold tabardref4_Sub.f
  exact Ev.bind (rneg_ev y) (Ev.bind (radd_ev x (ngt y) hx (ngt_lt y)) (Ev.now _))
end Go.Proofs.Ytbejjlecpcphoaa.Q
