/-
  Plain facts: what the words of the printed functions come to.
-/
import Derived.Test.YtbejjlecpcphoaaPx0
import Derived.Test.YtbejjlecpcphoaaQ0
import Derived.Laws.BitsLemmas
namespace Go.Proofs.Ytbejjlecpcphoaa.Q
set_option linter.unusedVariables false
set_option linter.unusedSimpArgs false
open Go.RowKit Go.Proofs.YtbejjlecpcphoaaW.PrintWords Go.Proofs.YtbejjlecpcphoaaW.PrintLast Go.Proofs.YtbejjlecpcphoaaW.PrintMore
open Go.Proofs.Ytbejjlecpcphoaa.LL Go.Proofs.Ytbejjlecpcphoaa.FM

theorem bind_eq {α β : Type} {o : Option α} {a : α} (h : o = some a) (f : α → Option β) : o.bind f = f a := by subst h; rfl
theorem w64 {x : Int} (h0 : -9223372036854775808 ≤ x) (h1 : x < 9223372036854775808) : wrap64 x = x := by
  unfold wrap64; omega
theorem wu64 (x : Int) : IntKind.u64.wrap x = x % 18446744073709551616 := by simp [IntKind.wrap, IntKind.bits, IntKind.signed]
theorem wu {x : Int} (h0 : 0 ≤ x) (h1 : x < 18446744073709551616) : IntKind.u64.wrap x = x := by rw [wu64]; omega
theorem wu32 (x : Int) : IntKind.u32.wrap x = x % 4294967296 := by simp [IntKind.wrap, IntKind.bits, IntKind.signed]
/-- How two naturals compare. -/
@[irreducible] def cmpN (a b : Nat) : Int := if a < b then -1 else if a = b then 0 else 1
/-- A shift to the right by fewer than 64 places. -/
theorem shr_nat (x n : Nat) (h : n ≤ 64) : shr .u64 (x : Int) (n : Int) = ((x / 2 ^ n : Nat) : Int) := by
  unfold shr
  have : min ((n : Int)).toNat IntKind.u64.bits = n := by simp [IntKind.bits]; omega
  rw [this]; simp
theorem shl_nat (x n : Nat) (h : n ≤ 64) : shl .u64 (x : Int) (n : Int) = ((x * 2 ^ n % 18446744073709551616 : Nat) : Int) := by
  unfold shl
  have : min ((n : Int)).toNat IntKind.u64.bits = n := by simp [IntKind.bits]; omega
  rw [this, wu64]; simp
theorem shl32_nat (x n : Nat) (h : n ≤ 32) : shl .u32 (x : Int) (n : Int) = ((x * 2 ^ n % 4294967296 : Nat) : Int) := by
  unfold shl
  have : min ((n : Int)).toNat IntKind.u32.bits = n := by simp [IntKind.bits]; omega
  rw [this, wu32]; simp

theorem wraps_u64 (n : Int) (h₀ : 0 ≤ n) (h₁ : n < 2 ^ 64) : IntKind.u64.wrap n = n := by rw [wu64]; omega
theorem wraps_u32 (n : Int) (h₀ : 0 ≤ n) (h₁ : n < 2 ^ 32) : IntKind.u32.wrap n = n := by rw [wu32]; omega
theorem cmpN_le {a b : Nat} (h : a ≤ b) : cmpN a b ≤ 0 := by unfold cmpN; split <;> (try split) <;> omega
theorem cmpN_gt {a b : Nat} (h : ¬ a ≤ b) : ¬ cmpN a b ≤ 0 := by unfold cmpN; rw [if_neg (by omega), if_neg (by omega)]; omega
theorem cmpN_pos {a b : Nat} (h : b < a) : cmpN a b > 0 := by unfold cmpN; rw [if_neg (by omega), if_neg (by omega)]; omega
theorem cmpN_ge {a b : Nat} (h : b ≤ a) : cmpN a b ≥ 0 := by unfold cmpN; rw [if_neg (by omega)]; split <;> omega
theorem cmpN_lt {a b : Nat} (h : ¬ b ≤ a) : ¬ cmpN a b ≥ 0 := by unfold cmpN; rw [if_pos (by omega)]; omega
theorem cmpN_neg {a b : Nat} (h : a < b) : cmpN a b < 0 := by unfold cmpN; rw [if_pos h]; omega
theorem cmpN_nneg {a b : Nat} (h : ¬ a < b) : ¬ cmpN a b < 0 := by unfold cmpN; rw [if_neg h]; split <;> omega
theorem cmpN_zero {a b : Nat} : cmpN a b = 0 ↔ a = b := by
  unfold cmpN
  by_cases h : a < b
  · rw [if_pos h]; omega
  · rw [if_neg h]
    by_cases e : a = b
    · rw [if_pos e]; omega
    · rw [if_neg e]; omega
theorem p64 : (2 : Nat) ^ 64 = 18446744073709551616 := by decide
theorem pow_over {n : Nat} (h : 64 ≤ n) : 2 ^ n = 18446744073709551616 * 2 ^ (n - 64) := by
  have := Nat.pow_add 2 64 (n - 64)
  rw [show 64 + (n - 64) = n from by omega, p64] at this
  exact this
theorem pow_halves {m i : Nat} (hm : m % 2 ^ (i + 1) = 0) : m % 2 ^ i = 0 := by
  rw [Nat.pow_succ, Nat.mul_comm] at hm
  exact Nat.mod_eq_zero_of_dvd (Nat.dvd_trans (Nat.dvd_mul_left _ _) (Nat.dvd_of_mod_eq_zero hm))
theorem root_next {T m i : Nat} (hgt : T < (m + 2 ^ (i + 1)) * (m + 2 ^ (i + 1))) : T < (m + 2 ^ i + 2 ^ i) * (m + 2 ^ i + 2 ^ i) := by
  rw [Nat.add_assoc, ← Nat.two_mul, Nat.mul_comm 2, ← Nat.pow_succ]; exact hgt
theorem pow_room {m i B : Nat} (h : m + 2 ^ (i + 1) ≤ B) : m + 2 ^ i < B ∧ m + 2 ^ i + 2 ^ i ≤ B ∧ m + 2 ^ i ≤ B := by
  have hp := Nat.two_pow_pos i
  rw [Nat.pow_succ] at h; omega
/-- The root of a number below 2^128: bit by bit. -/
theorem root_unique {r s a : Nat} (h1 : r * r ≤ a) (h2 : a < (r + 1) * (r + 1)) (h3 : s * s ≤ a) (h4 : a < (s + 1) * (s + 1)) : r = s := by
  rcases Nat.lt_trichotomy r s with h | h | h
  · have := Nat.mul_le_mul (show r + 1 ≤ s from h) (show r + 1 ≤ s from h); omega
  · exact h
  · have := Nat.mul_le_mul (show s + 1 ≤ r from h) (show s + 1 ≤ r from h); omega

end Go.Proofs.Ytbejjlecpcphoaa.Q
