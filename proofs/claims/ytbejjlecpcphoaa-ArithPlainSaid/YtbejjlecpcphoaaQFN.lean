/-
  A float's kind and parts, by its bits; how the parts' neighbours are rounded.
-/
import Derived.Test.YtbejjlecpcphoaaQF1
import Derived.Test.YtbejjlecpcphoaaQF3
namespace Go.Proofs.Ytbejjlecpcphoaa.Q
set_option linter.unusedVariables false
open Go.RowKit Go.Proofs.YtbejjlecpcphoaaW.PrintWords Go.Proofs.YtbejjlecpcphoaaW.PrintLast Go.Proofs.YtbejjlecpcphoaaW.PrintMore
open Go.Proofs.Ytbejjlecpcphoaa.P Go.Proofs.Ytbejjlecpcphoaa.LL Go.Proofs.Ytbejjlecpcphoaa.FM

/-- The kind, by the number without its sign. -/
theorem kd_of (x : Nat) : kd x = (if x % 9223372036854775808 = 0 then 0 else if x % 9223372036854775808 < 4503599627370496 then 1 else if x % 9223372036854775808 < 9218868437227405312 then 2 else if x % 9223372036854775808 = 9218868437227405312 then 3 else 4) := by
  have h := kd_cases x
  have e : fE x = x % 9223372036854775808 / 4503599627370496 ∧ fM x = x % 9223372036854775808 % 4503599627370496 := by unfold fE fM; omega
  obtain ⟨e1, e2⟩ := e
  rw [e1, e2] at h
  have hr : x % 9223372036854775808 < 9223372036854775808 := Nat.mod_lt _ (by decide)
  generalize x % 9223372036854775808 = r at *
  generalize kd x = K at *
  clear e1 e2
  by_cases a0 : r = 0
  · rw [if_pos a0]; omega
  rw [if_neg a0]
  by_cases a1 : r < 4503599627370496
  · rw [if_pos a1]; omega
  rw [if_neg a1]
  by_cases a2 : r < 9218868437227405312
  · rw [if_pos a2]; omega
  rw [if_neg a2]
  by_cases a3 : r = 9218868437227405312
  · rw [if_pos a3]; omega
  · rw [if_neg a3]; omega
theorem kd4 (x : Nat) : kd x = 4 ↔ 9218868437227405312 < x % 9223372036854775808 := by
  rw [kd_of]
  generalize x % 9223372036854775808 = r
  split
  · omega
  · split
    · omega
    · split
      · omega
      · split
        · omega
        · omega
theorem kd0 (x : Nat) : kd x = 0 ↔ x % 9223372036854775808 = 0 := by
  rw [kd_of]
  generalize x % 9223372036854775808 = r
  split
  · omega
  · split
    · omega
    · split
      · omega
      · split
        · omega
        · omega
theorem kd3 (x : Nat) : kd x = 3 ↔ x % 9223372036854775808 = 9218868437227405312 := by
  rw [kd_of]
  generalize x % 9223372036854775808 = r
  split
  · omega
  · split
    · omega
    · split
      · omega
      · split
        · omega
        · omega
theorem ngt_of {x : Nat} (h : x % 9223372036854775808 ≤ 9218868437227405312) : ngt x = (x + 9223372036854775808) % 18446744073709551616 := by
  unfold ngt; rw [if_neg (fun h4 => by have := (kd4 x).1 h4; omega)]
/-- The parts make the number. -/
theorem parts_of (x : Nat) (h0 : x % 9223372036854775808 ≠ 0) (h : x % 9223372036854775808 < 9218868437227405312) :
    x % 9223372036854775808 = (sE x + 1074).toNat * 4503599627370496 + sM x ∧ -1074 ≤ sE x ∧ sE x ≤ 971 ∧ 0 < sM x ∧ sM x < 9007199254740992 ∧ (sE x = -1074 ∨ 4503599627370496 ≤ sM x) := by
  have e : fE x = x % 9223372036854775808 / 4503599627370496 ∧ fM x = x % 9223372036854775808 % 4503599627370496 := by unfold fE fM; omega
  obtain ⟨e1, e2⟩ := e
  have hk := kd_of x
  rw [if_neg h0, if_pos h] at hk
  unfold sM sE
  rw [e1, e2]
  generalize x % 9223372036854775808 = r at *
  clear e1 e2
  by_cases h1 : r < 4503599627370496
  · rw [if_pos h1] at hk
    rw [hk, if_neg (by decide), if_pos (by decide), if_neg (by decide), if_pos (by decide)]
    omega
  · rw [if_neg h1] at hk
    rw [hk, if_pos rfl, if_pos rfl]
    omega
theorem near_up {m : Nat} {e : Int} (hm0 : 0 < m) (hm : m < 9007199254740992) (he : -1074 ≤ e) (h : e = -1074 ∨ 4503599627370496 ≤ m) (htop : (e + 1074).toNat * 4503599627370496 + m + 1 < 9218868437227405312) :
    near (m + 1) e false = (e + 1074).toNat * 4503599627370496 + m + 1 := by
  by_cases h1 : m + 1 < 9007199254740992
  · rw [near_parts h1 he (by omega) (by omega), if_neg (by omega)]; omega
  · have hm2 : m + 1 = 4503599627370496 * 2 ^ 1 := by omega
    have s := near_scale 4503599627370496 (e + 1) 1
    rw [← hm2, show e + 1 - ((1 : Nat) : Int) = e by omega] at s
    rw [s, near_parts (by decide) (by omega) (Or.inr (by decide)) (by omega), if_neg (by decide)]; omega
theorem near_low {m : Nat} {e : Int} (hm0 : 0 < m) (hm : m < 9007199254740992) (he : -1074 ≤ e) (h : e = -1074 ∨ 4503599627370496 ≤ m) (htop : e ≤ 971) :
    near (4 * m - 1) (e - 2) true = (e + 1074).toNat * 4503599627370496 + m := by
  have hn : 4 * m - 1 ≠ 0 := by omega
  have fin : bitsOf m e = (e + 1074).toNat * 4503599627370496 + m := bitsOf_fin hm he (by omega)
  rw [near_bits true hn]
  have q2 : rqi (4 * m - 1) 2 true = m := by
    have r := rq_bits (4 * m - 1) 1 true
    unfold rqi
    rw [if_neg (by decide), show (2 : Int).toNat = 1 + 1 from rfl, r, if_pos ⟨by omega, Or.inr (Or.inl rfl)⟩]
    omega
  by_cases hb : e > -1074 ∧ m = 4503599627370496
  · obtain ⟨hb1, hb2⟩ := hb
    have hbl : blen (4 * m - 1) = 54 := blen_of (k := 53) (by rw [hb2]; decide) (by rw [hb2]; decide)
    have hu : ulp (4 * m - 1) (e - 2) = e - 1 := by unfold ulp; rw [hbl]; omega
    have q1 : rqi (4 * m - 1) 1 true = 9007199254740992 := by
      have r := rq_bits (4 * m - 1) 0 true
      unfold rqi
      rw [if_neg (by decide), show (1 : Int).toNat = 0 + 1 from rfl, r, if_pos ⟨by rw [hb2], Or.inr (Or.inl rfl)⟩, hb2]
    rw [hu, show e - 1 - (e - 2) = 1 by omega, q1, bitsOf_top _ (by omega), show e - 1 + 1 = e by omega, ← fin, hb2]
  · have hu : ulp (4 * m - 1) (e - 2) = e := by
      unfold ulp
      by_cases h2 : 4503599627370496 < m
      · have hbl : blen (4 * m - 1) = 55 := blen_of (k := 54) (Nat.le_trans (show (2 : Nat) ^ 54 ≤ 18014398509481984 by decide) (by omega)) (Nat.lt_of_lt_of_le (show 4 * m - 1 < 36028797018963968 by omega) (by decide))
        rw [hbl]; omega
      · have hbl : blen (4 * m - 1) ≤ 54 := blen_le_of_lt (Nat.lt_of_lt_of_le (show 4 * m - 1 < 18014398509481984 by omega) (by decide))
        omega
    rw [hu, show e - (e - 2) = 2 by omega, q2, fin]
theorem two0 (x : Nat) : two 0 (x : Int) = x := by unfold two; omega
theorem word_nat {x : Nat} (h : x < 18446744073709551616) : Word (x : Int) := ⟨by omega, by omega⟩
theorem word_0 : Word 0 := ⟨by omega, by omega⟩
/-- The parts of a finite number are rounded to it. -/
theorem near_self {x : Nat} (h : x % 9223372036854775808 < 9218868437227405312) : near (sM x) (sE x) false = x % 9223372036854775808 := by
  by_cases h0 : x % 9223372036854775808 = 0
  · have k0 := (kd0 x).2 h0
    have k := kd_cases x
    have : sM x = 0 := by unfold sM; rw [if_neg (by omega), if_pos (by omega)]; omega
    rw [this, h0]; unfold near; rw [if_pos rfl]
  · obtain ⟨p1, p2, p3, p4, p5, p6⟩ := parts_of x h0 h
    rw [near_parts p5 p2 p6 p3, if_neg (by omega), ← p1]
theorem sM_lt (x : Nat) : sM x < 9007199254740992 := by
  have := fM_lt x
  unfold sM; split
  · omega
  · split <;> omega
theorem sE_bounds (x : Nat) : -1074 ≤ sE x ∧ sE x ≤ 972 := by
  have := fE_lt x
  have := kd_cases x
  unfold sE; split
  · omega
  · split <;> omega
theorem sgn_self {x : Nat} (h : x < 18446744073709551616) : sgn (decide ((x : Int) ≥ 9223372036854775808)) (x % 9223372036854775808) = x := by
  by_cases hx : (x : Int) ≥ 9223372036854775808
  · rw [decide_eq_true hx, sgn_true]; omega
  · rw [decide_eq_false hx, sgn_false]; omega
theorem kd_fin {x : Nat} (h : ¬ kd x ≥ 3) : x % 9223372036854775808 < 9218868437227405312 := by
  rw [kd_of] at h
  generalize x % 9223372036854775808 = r at *
  by_cases h1 : r = 0
  · omega
  rw [if_neg h1] at h
  by_cases h2 : r < 4503599627370496
  · omega
  rw [if_neg h2] at h
  by_cases h3 : r < 9218868437227405312
  · exact h3
  rw [if_neg h3] at h
  exfalso
  split at h <;> omega
end Go.Proofs.Ytbejjlecpcphoaa.Q
