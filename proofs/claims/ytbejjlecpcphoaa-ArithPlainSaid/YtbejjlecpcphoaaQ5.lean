/-
  Package wide: Drop, Shr, Shl, Times.
-/
import Derived.Test.YtbejjlecpcphoaaPx6
import Derived.Test.YtbejjlecpcphoaaPx5
import Derived.Test.YtbejjlecpcphoaaQ4
namespace Go.Proofs.Ytbejjlecpcphoaa.Q
set_option linter.unusedVariables false
set_option linter.unusedSimpArgs false
open Go.RowKit Go.Proofs.YtbejjlecpcphoaaW.PrintWords Go.Proofs.YtbejjlecpcphoaaW.PrintLast Go.Proofs.YtbejjlecpcphoaaW.PrintMore
open Go.Proofs.Ytbejjlecpcphoaa.P Go.Proofs.Ytbejjlecpcphoaa.LL Go.Proofs.Ytbejjlecpcphoaa.FM

theorem mx_nat (n : Int) : mx n 0 = ((n.toNat : Nat) : Int) := by unfold mx; split <;> omega
theorem all0 (a b c : Int) : ((!(a == 0) || (!(b == 0) || (!(c == 0)))) = true) ↔ ¬ (a = 0 ∧ b = 0 ∧ c = 0) := by
  by_cases h1 : a = 0 <;> by_cases h2 : b = 0 <;> by_cases h3 : c = 0 <;> simp [h1, h2, h3]
theorem all0' (a b c : Int) : ((a == 0 && (b == 0 && (c == 0))) = true) ↔ (a = 0 ∧ b = 0 ∧ c = 0) := by simp
theorem three_words {a b c : Nat} (hb : b < 18446744073709551616) (hc : c < 18446744073709551616) (n : Nat) :
    three (a : Int) (b : Int) (c : Int) / 2 ^ n = ((a * 18446744073709551616 + b) * 18446744073709551616 + c) / 2 ^ n := by
  unfold three; simp only [Int.toNat_natCast]
/-- The words of a number of 192 bits, less than 64 places down. -/
theorem drop_words (a b c n : Nat) (h : n ≤ 64) (ha : a < 18446744073709551616) (hb : b < 18446744073709551616) (hc : c < 18446744073709551616) (V : Nat) (hV : V = (a * 18446744073709551616 + b) * 18446744073709551616 + c) :
    V / 2 ^ n / 340282366920938463463374607431768211456 % 18446744073709551616 = a / 2 ^ n ∧
    V / 2 ^ n / 18446744073709551616 % 18446744073709551616 = (a * 18446744073709551616 + b) / 2 ^ n % 18446744073709551616 ∧
    V / 2 ^ n % 18446744073709551616 = (b * 18446744073709551616 + c) / 2 ^ n % 18446744073709551616 := by
  have hp := Nat.two_pow_pos n
  have h1 : V / 18446744073709551616 = a * 18446744073709551616 + b := by omega
  have h2 : V / 340282366920938463463374607431768211456 = a := by omega
  have h3 : V % 340282366920938463463374607431768211456 = b * 18446744073709551616 + c := by omega
  have e := pow64_split n h
  refine ⟨?_, ?_, ?_⟩
  · rw [Nat.div_div_eq_div_mul, Nat.mul_comm, ← Nat.div_div_eq_div_mul, h2]
    exact Nat.mod_eq_of_lt (Nat.lt_of_le_of_lt (Nat.div_le_self _ _) ha)
  · rw [Nat.div_div_eq_div_mul, Nat.mul_comm, ← Nat.div_div_eq_div_mul, h1]
  · rw [← h3]
    have : V = 340282366920938463463374607431768211456 * (V / 340282366920938463463374607431768211456) + V % 340282366920938463463374607431768211456 := (Nat.div_add_mod _ _).symm
    conv => lhs; rw [this]
    rw [show (340282366920938463463374607431768211456 : Nat) = 2 ^ n * (2 ^ (64 - n) * 18446744073709551616) from by
      rw [← Nat.mul_assoc, Nat.mul_comm (2 ^ n), ← e]]
    rw [Nat.mul_assoc, Nat.mul_add_div hp, Nat.mul_comm (2 ^ (64 - n)) 18446744073709551616, Nat.mul_assoc, Nat.mul_add_mod]

theorem drop_last (x6 : Bool) (a b c n : Nat) (h : n < 64) (ha : a < 18446744073709551616) (hb : b < 18446744073709551616) (hc : c < 18446744073709551616) (V : Nat) (hV : V = (a * 18446744073709551616 + b) * 18446744073709551616 + c) (k : Nat) :
    wide_Drop.l0 (k + 1) (n : Int) x6 (a : Int) (b : Int) (c : Int) = some (w2 (V / 2 ^ n), hiW (V / 2 ^ n), loW (V / 2 ^ n), (x6 || decide (V % 2 ^ n ≠ 0))) := by
  obtain ⟨d1, d2, d3⟩ := drop_words a b c n (by omega) ha hb hc V hV
  have e1 : wrap64 (64 - (n : Int)) = ((64 - n : Nat) : Int) := by rw [w64 (by omega) (by omega)]; omega
  have hvm : V % 2 ^ n = c % 2 ^ n := by
    have e := pow64_split n (by omega)
    rw [hV, Nat.add_comm]
    conv => lhs; rw [e]
    rw [← Nat.mul_assoc, Nat.add_mul_mod_self_right]
  simp only [wide_Drop.l0]
  rw [if_neg (show ¬ (n : Int) ≥ 64 by omega)]
  unfold w2 hiW loW
  rw [d1, d2, d3, hvm]
  by_cases hz : (((a : Int) == 0 && ((b : Int) == 0 && ((c : Int) == 0))) = true)
  · rw [if_pos hz]
    have h3 := (all0' _ _ _).1 hz
    have : a = 0 ∧ b = 0 ∧ c = 0 := by omega
    obtain ⟨rfl, rfl, rfl⟩ := this
    simp
  · rw [if_neg hz, e1, word_or a b n (by omega) ha hb, word_or b c n (by omega) hb hc, shr_nat a n (by omega), mask_eq c n h hc]
    cases x6 with
    | true => rw [if_pos rfl, if_pos (by omega), if_pos (by omega)]; rfl
    | false =>
      rw [if_neg (by simp), if_pos (by omega), if_pos (by omega)]
      congr 4
      rw [Bool.false_or, decide_eq_decide]; omega
theorem drop_zero (x6 : Bool) (n : Nat) (h : 64 ≤ n) (k : Nat) : wide_Drop.l0 (k + 1) (n : Int) x6 0 0 0 = some (0, 0, 0, x6) := by
  simp only [wide_Drop.l0]
  rw [if_pos (by omega), if_neg (by simp), if_pos (by simp)]
theorem drop_l0 (V : Nat) : ∀ (x6 : Bool) (a b c n : Nat), a < 18446744073709551616 → b < 18446744073709551616 → c < 18446744073709551616 → V = (a * 18446744073709551616 + b) * 18446744073709551616 + c → n < 9223372036854775808 →
    Ev (fun k => wide_Drop.l0 k (n : Int) x6 (a : Int) (b : Int) (c : Int)) (w2 (V / 2 ^ n), hiW (V / 2 ^ n), loW (V / 2 ^ n), (x6 || decide (V % 2 ^ n ≠ 0))) := by
  induction V using Nat.strongRecOn with
  | _ V ih =>
    intro x6 a b c n ha hb hc hV hn
    by_cases h : n < 64
    · exact Ev.step (drop_last x6 a b c n h ha hb hc V hV) (Ev.now _)
    · by_cases hz : V = 0
      · have : a = 0 ∧ b = 0 ∧ c = 0 := by omega
        obtain ⟨rfl, rfl, rfl⟩ := this
        refine Ev.step (f := fun _ => some (0, 0, 0, x6)) (drop_zero x6 n (by omega)) ?_
        rw [hz]
        unfold w2 hiW loW
        simp
        exact Ev.now _
      · have hV2 : V / 18446744073709551616 = a * 18446744073709551616 + b := by omega
        have hV3 : V % 18446744073709551616 = c := by omega
        have hih := ih (V / 18446744073709551616) (by omega) (x6 || decide ((c : Int) > 0)) 0 a b (n - 64) (by decide) ha hb (by rw [hV2, Nat.zero_mul, Nat.zero_add]) (by omega)
        have epow : 2 ^ n = 18446744073709551616 * 2 ^ (n - 64) := pow_over (by omega)
        have ed : V / 18446744073709551616 / 2 ^ (n - 64) = V / 2 ^ n := by rw [epow, Nat.div_div_eq_div_mul]
        have em : (x6 || decide ((c : Int) > 0) || decide (V / 18446744073709551616 % 2 ^ (n - 64) ≠ 0)) = (x6 || decide (V % 2 ^ n ≠ 0)) := by
          rw [epow, Nat.mod_mul, hV3, Bool.or_assoc]
          congr 1
          rw [← Bool.decide_or, decide_eq_decide]
          generalize V / 18446744073709551616 % 2 ^ (n - 64) = z
          omega
        rw [ed, em] at hih
        refine Ev.step (fun k => ?_) hih
        have e1 : wrap64 ((n : Int) - 64) = ((n - 64 : Nat) : Int) := by rw [w64 (by omega) (by omega)]; omega
        simp only [wide_Drop.l0]
        rw [if_pos (by omega), if_pos ((all0 _ _ _).2 (by omega)), e1]
        cases x6 with
        | true => rw [if_pos rfl]; rfl
        | false => rw [if_neg (by simp)]; rfl
theorem drop_ev {a b c n : Int} (h1 : Word a) (h2 : Word b) (h3 : Word c) (hn : n < 9223372036854775808) :
    Ev (fun k => wide_Drop.f k a b c n) (w2 (three a b c / 2 ^ n.toNat), hiW (three a b c / 2 ^ n.toNat), loW (three a b c / 2 ^ n.toNat), decide (three a b c % 2 ^ n.toNat ≠ 0)) := by
  obtain ⟨x, rfl⟩ := Int.eq_ofNat_of_zero_le h1.lo
  obtain ⟨y, rfl⟩ := Int.eq_ofNat_of_zero_le h2.lo
  obtain ⟨z, rfl⟩ := Int.eq_ofNat_of_zero_le h3.lo
  have a1 := h1.hi; have a2 := h2.hi; have a3 := h3.hi
  unfold wide_Drop.f
  rw [mx_nat]
  have := drop_l0 (three x y z) false x y z n.toNat (by omega) (by omega) (by omega) (by unfold three; simp only [Int.toNat_natCast]) (by omega)
  rw [Bool.false_or] at this
  exact this
theorem low_eq (a b c : Int) : wide_Low.f a b c = some (b, c) := rfl
theorem three_0 (a b : Int) : three 0 a b = two a b := by unfold three two; simp
theorem two_div {n : Nat} (h : n < 340282366920938463463374607431768211456) : w2 n = 0 := by unfold w2; omega
theorem wshr_ev {a b n : Int} (h1 : Word a) (h2 : Word b) (hn : n < 9223372036854775808) :
    Ev (fun k => wide_Shr.f k a b n) (hiW (two a b / 2 ^ n.toNat), loW (two a b / 2 ^ n.toNat), decide (two a b % 2 ^ n.toNat ≠ 0)) := by
  unfold wide_Shr.f
  have := drop_ev (a := 0) ⟨by omega, by omega⟩ h1 h2 hn
  rw [three_0] at this
  refine Ev.bind this ?_
  simp only [low_eq, Option.bind_some]
  exact Ev.now _
/-- Shl: what is over the end falls off. -/
theorem wshl_eq {a b n : Int} (h1 : Word a) (h2 : Word b) (hn : n < 9223372036854775808) :
    wide_Shl.f a b n = some (hiW (two a b * 2 ^ n.toNat), loW (two a b * 2 ^ n.toNat)) := by
  obtain ⟨x, rfl⟩ := Int.eq_ofNat_of_zero_le h1.lo
  obtain ⟨y, rfl⟩ := Int.eq_ofNat_of_zero_le h2.lo
  have a1 := h1.hi; have a2 := h2.hi
  have hx : x < 18446744073709551616 := by omega
  have hy : y < 18446744073709551616 := by omega
  have et : two (x : Int) (y : Int) = x * 18446744073709551616 + y := by unfold two; simp only [Int.toNat_natCast]
  rw [et]
  unfold wide_Shl.f
  rw [mx_nat]
  obtain ⟨m, hm⟩ : ∃ m : Nat, m = n.toNat := ⟨_, rfl⟩
  rw [← hm]
  have hm2 : m < 9223372036854775808 := by omega
  clear hm hn
  by_cases h : (m : Int) ≥ 64
  · rw [if_pos h]
    obtain ⟨j, rfl⟩ : ∃ j, m = j + 64 := ⟨m - 64, by omega⟩
    have e1 : wrap64 (((j + 64 : Nat) : Int) - 64) = (j : Int) := by rw [w64 (by omega) (by omega)]; omega
    have e2 : mn (j : Int) 64 = ((min j 64 : Nat) : Int) := by unfold mn; split <;> omega
    rw [e1, e2, if_pos (by omega), Int.toNat_natCast, wu64]
    have ep : 2 ^ (j + 64) = 18446744073709551616 * 2 ^ j := by
      have := pow_over (n := j + 64) (by omega)
      rwa [Nat.add_sub_cancel] at this
    have eA : (x * 18446744073709551616 + y) * 2 ^ (j + 64) = 18446744073709551616 * ((x * 18446744073709551616 + y) * 2 ^ j) := by
      rw [ep, Nat.mul_left_comm]
    have eB : (x * 18446744073709551616 + y) * 2 ^ j % 18446744073709551616 = y * 2 ^ (min j 64) % 18446744073709551616 := by
      rw [Nat.add_mul, Nat.mul_right_comm, Nat.mul_comm _ 18446744073709551616, Nat.mul_add_mod]
      by_cases hj : j ≤ 64
      · rw [Nat.min_eq_left hj]
      · rw [Nat.min_eq_right (by omega)]
        rw [pow_over (n := j) (by omega), p64, Nat.mul_left_comm, Nat.mul_mod_right, Nat.mul_mod_left]
    unfold hiW loW
    rw [eA, Nat.mul_div_cancel_left _ (by omega), eB, Nat.mul_mod_right]
    rfl
  · rw [if_neg h]
    have e1 : wrap64 (64 - (m : Int)) = ((64 - m : Nat) : Int) := by rw [w64 (by omega) (by omega)]; omega
    have hw := or_word x y (64 - m) (by omega) hx hy
    rw [show 64 - (64 - m) = m from by omega] at hw
    rw [e1, if_pos (by omega), hw, shl_nat y m (by omega)]
    have e := pow64_split m (by omega)
    have hp := Nat.two_pow_pos (64 - m)
    unfold hiW loW
    have eA : (x * 18446744073709551616 + y) * 2 ^ m / 18446744073709551616 = (x * 18446744073709551616 + y) / 2 ^ (64 - m) := by
      generalize x * 18446744073709551616 + y = z
      rw [e, Nat.mul_div_mul_right _ _ (Nat.two_pow_pos m)]
    have eB : (x * 18446744073709551616 + y) * 2 ^ m % 18446744073709551616 = y * 2 ^ m % 18446744073709551616 := by
      rw [Nat.add_mul, Nat.mul_right_comm, Nat.mul_comm _ 18446744073709551616, Nat.mul_add_mod]
    rw [eA, eB]
end Go.Proofs.Ytbejjlecpcphoaa.Q
