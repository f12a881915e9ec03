/-
  Laws of sums and products of floats: either way round, other signs, nothing added, one.
-/
import Derived.Test.YtbejjlecpcphoaaQAM
namespace Go.Proofs.Ytbejjlecpcphoaa.Q
set_option linter.unusedVariables false
open Go.RowKit Go.Proofs.YtbejjlecpcphoaaW.PrintWords Go.Proofs.YtbejjlecpcphoaaW.PrintLast Go.Proofs.YtbejjlecpcphoaaW.PrintMore
open Go.Proofs.Ytbejjlecpcphoaa.P Go.Proofs.Ytbejjlecpcphoaa.LL Go.Proofs.Ytbejjlecpcphoaa.FM

theorem addR_comm (x y : Nat) : addR x y = addR y x := by
  have rx := kd_range x
  have ry := kd_range y
  by_cases h4 : kd x = 4 ∨ kd y = 4
  · rw [addR_nan h4, addR_nan h4.symm]
  by_cases h3 : kd x = 3
  · by_cases g3 : kd y = 3
    · by_cases e : x = y
      · rw [e]
      · rw [addR_inf2 h3 g3 e, addR_inf2 g3 h3 (fun q => e q.symm)]
    · rw [addR_inf h3 (Or.inl (by omega)), addR_other (by omega) h3]
  by_cases g3 : kd y = 3
  · rw [addR_other (by omega) g3, addR_inf g3 (Or.inl (by omega))]
  by_cases h0 : kd x = 0 ∧ kd y = 0
  · rw [addR_zeros h0.1 h0.2, addR_zeros h0.2 h0.1]
    by_cases e : x = y
    · rw [if_pos e, if_pos e.symm, e]
    · rw [if_neg e, if_neg (fun q => e q.symm)]
  · rw [addR_fin (by omega) (by omega) h0, addR_fin (by omega) (by omega) (fun q => h0 ⟨q.2, q.1⟩), finE_comm]
theorem bne_comm (a b : Bool) : (a != b) = (b != a) := by cases a <;> cases b <;> rfl
theorem mulR_comm (x y : Nat) : mulR x y = mulR y x := by
  have rx := kd_range x
  have ry := kd_range y
  by_cases h : kd x = 4 ∨ kd y = 4 ∨ kd x = 3 ∧ kd y = 0 ∨ kd x = 0 ∧ kd y = 3
  · rw [mulR_nan h, mulR_nan (by omega)]
  by_cases h3 : kd x = 3 ∨ kd y = 3
  · rw [mulR_inf (by omega) (by omega) (by omega), mulR_inf (by omega) (by omega) (by omega), bne_comm]
  · rw [mulR_fin (by omega) (by omega), mulR_fin (by omega) (by omega), bne_comm, Nat.mul_comm, Int.add_comm]
/-- What the other sign turns, and what not. -/
theorem ngt_eq {x : Nat} (h : kd x ≠ 4) : ngt x = (x + 9223372036854775808) % 18446744073709551616 := by unfold ngt; rw [if_neg h]
theorem ngt_low {x : Nat} (h : kd x ≠ 4) : ngt x % 9223372036854775808 = x % 9223372036854775808 := by rw [ngt_eq h]; omega
theorem kd_ngt (x : Nat) : kd (ngt x) = kd x := by
  by_cases h : kd x = 4
  · have e : ngt x = 9221120237041090560 := by unfold ngt; rw [if_pos h]
    rw [e, h]; exact (kd4 _).2 (by decide)
  · rw [kd_of, kd_of x, ngt_low h]
theorem sM_ngt (x : Nat) : sM (ngt x) = sM x := by
  by_cases h : kd x = 4
  · unfold sM; rw [kd_ngt, h]; rfl
  · have e : fM (ngt x) = fM x := by unfold fM; have := ngt_low h; omega
    unfold sM; rw [kd_ngt, e]
theorem sE_ngt (x : Nat) : sE (ngt x) = sE x := by
  by_cases h : kd x = 4
  · unfold sE; rw [kd_ngt, h]; rfl
  · have e : fE (ngt x) = fE x := by unfold fE; have := ngt_low h; omega
    unfold sE; rw [kd_ngt, e]
theorem mag_ngt (x : Nat) : mag (ngt x) = mag x := by unfold mag; rw [sM_ngt, sE_ngt]
theorem neg_ngt {x : Nat} (hx : x < 18446744073709551616) (h : kd x ≠ 4) : neg (ngt x) = !neg x := by
  rw [ngt_eq h]; unfold neg
  by_cases hh : (x : Int) ≥ 9223372036854775808
  · rw [decide_eq_true hh, decide_eq_false (by omega)]; rfl
  · rw [decide_eq_false hh, decide_eq_true (by omega)]; rfl
theorem ngt_ngt {x : Nat} (hx : x < 18446744073709551616) (h : kd x ≠ 4) : ngt (ngt x) = x := by
  rw [ngt_eq (x := ngt x) (by rw [kd_ngt]; exact h), ngt_eq h]; omega
theorem ngt_ne {x : Nat} (hx : x < 18446744073709551616) (h : kd x ≠ 4) : ngt x ≠ x := by rw [ngt_eq h]; omega
theorem kd_sgn {b : Bool} {N : Nat} (hN : N ≤ 9218868437227405312) : kd (sgn b N) ≠ 4 := by
  intro h
  have := (kd4 _).1 h
  cases b with
  | true => rw [sgn_true] at this; omega
  | false => rw [sgn_false] at this; omega
theorem ngt_sgn (b : Bool) {N : Nat} (hN : N ≤ 9218868437227405312) : ngt (sgn b N) = sgn (!b) N := by
  rw [ngt_eq (kd_sgn hN)]
  cases b with
  | true => rw [sgn_true, show (!true) = false from rfl, sgn_false]; omega
  | false => rw [sgn_false, show (!false) = true from rfl, sgn_true]; omega
theorem nan_kd : kd 9221120237041090560 = 4 := (kd4 _).2 (by decide)
theorem ngt_nan : ngt 9221120237041090560 = 9221120237041090560 := by unfold ngt; rw [if_pos nan_kd]
theorem mulR_ngt {x y : Nat} (hx : x < 18446744073709551616) : mulR (ngt x) y = ngt (mulR x y) := by
  have rx := kd_range x
  have ry := kd_range y
  have kx := kd_ngt x
  by_cases h : kd x = 4 ∨ kd y = 4 ∨ kd x = 3 ∧ kd y = 0 ∨ kd x = 0 ∧ kd y = 3
  · rw [mulR_nan h, mulR_nan (by rw [kx]; exact h), ngt_nan]
  have nx := neg_ngt hx (by omega)
  have eb : ((!neg x) != neg y) = !(neg x != neg y) := by cases neg x <;> cases neg y <;> rfl
  by_cases h3 : kd x = 3 ∨ kd y = 3
  · rw [mulR_inf (x := x) (by omega) (by omega) (by omega), mulR_inf (by omega) (by omega) (by omega), nx, eb, ngt_sgn _ (Nat.le_refl _)]
  · rw [mulR_fin (x := x) (by omega) (by omega), mulR_fin (by omega) (by omega), nx, eb, sM_ngt, sE_ngt, ngt_sgn _ (near_le _ _ _)]
/-- The other difference is the one with the other sign, or both are noughts. -/
theorem sub_turn {x y : Nat} (hx : x < 18446744073709551616) (hy : y < 18446744073709551616) :
    addR x (ngt y) = ngt (addR y (ngt x)) ∨ addR x (ngt y) % 9223372036854775808 = 0 ∧ addR y (ngt x) % 9223372036854775808 = 0 := by
  have rx := kd_range x
  have ry := kd_range y
  have kx := kd_ngt x
  have ky := kd_ngt y
  by_cases h4 : kd x = 4 ∨ kd y = 4
  · left; rw [addR_nan (by rw [ky]; exact h4), addR_nan (by rw [kx]; exact h4.symm), ngt_nan]
  have nx := neg_ngt hx (by omega)
  have ny := neg_ngt hy (by omega)
  have ex := ngt_ngt hx (by omega)
  have ey := ngt_ngt hy (by omega)
  by_cases h3 : kd x = 3
  · left
    by_cases g3 : kd y = 3
    · by_cases e : x = ngt y
      · have e2 : y = ngt x := by rw [e, ey]
        rw [addR_inf h3 (Or.inr ⟨by omega, e⟩), addR_inf g3 (Or.inr ⟨by omega, e2⟩), ← e]
      · have e2 : y ≠ ngt x := fun q => e (by rw [q, ex])
        rw [addR_inf2 h3 (by omega) e, addR_inf2 g3 (by omega) e2, ngt_nan]
    · rw [addR_inf h3 (Or.inl (by omega)), addR_other (by omega) (by omega), ex]
  by_cases g3 : kd y = 3
  · left; rw [addR_other (by omega) (by omega), addR_inf g3 (Or.inl (by omega))]
  by_cases h0 : kd x = 0 ∧ kd y = 0
  · right
    have z1 := (kd0 x).1 h0.1
    have z2 := (kd0 y).1 h0.2
    rw [addR_zeros h0.1 (by omega), addR_zeros h0.2 (by omega)]
    constructor <;> split <;> first | exact z1 | exact z2 | rfl
  rw [addR_fin (by omega) (by omega) (by omega), addR_fin (by omega) (by omega) (by omega), mag_ngt, mag_ngt, nx, ny]
  by_cases hn : neg x = neg y
  · have d1 : neg x ≠ !neg y := by rw [hn]; cases neg y <;> decide
    have d2 : neg y ≠ !neg x := by rw [hn]; cases neg y <;> decide
    rcases Nat.lt_trichotomy (mag x) (mag y) with h | h | h
    · left; rw [finE_lt _ d1 h, finE_gt _ d2 h, ngt_sgn _ (near_le _ _ _)]
    · right; rw [h, finE_eq _ d1, finE_eq _ d2]; exact ⟨rfl, rfl⟩
    · left; rw [finE_gt _ d1 h, finE_lt _ d2 h, ngt_sgn _ (near_le _ _ _), Bool.not_not]
  · have d1 : neg x = !neg y := by revert hn; cases neg x <;> cases neg y <;> decide
    have d2 : (!neg x) = neg y := by rw [d1, Bool.not_not]
    rw [← d1, d2]
    by_cases hz : mag x + mag y = 0
    · right; rw [finE_zero _ _ _ hz, finE_zero _ _ _ (by omega)]; exact ⟨rfl, rfl⟩
    · left; rw [finE_same _ _ hz, finE_same _ _ (by omega), ngt_sgn _ (near_le _ _ _), ← d1, Nat.add_comm]
end Go.Proofs.Ytbejjlecpcphoaa.Q
