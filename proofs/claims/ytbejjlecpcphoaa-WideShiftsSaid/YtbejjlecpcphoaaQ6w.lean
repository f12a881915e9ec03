/-
  The root of package wide.
-/
import Derived.Test.YtbejjlecpcphoaaPx30
import Derived.Test.YtbejjlecpcphoaaQ4
namespace Go.Proofs.Ytbejjlecpcphoaa.Q
set_option linter.unusedVariables false
set_option linter.unusedSimpArgs false
open Go.RowKit Go.Proofs.YtbejjlecpcphoaaW.PrintWords Go.Proofs.YtbejjlecpcphoaaW.PrintLast Go.Proofs.YtbejjlecpcphoaaW.PrintMore
open Go.Proofs.Ytbejjlecpcphoaa.P Go.Proofs.Ytbejjlecpcphoaa.LL Go.Proofs.Ytbejjlecpcphoaa.FM

/-- One bit of a root, by package wide. -/
theorem or_bit (m i : Nat) (hm : m % 2 ^ (i + 1) = 0) (h : m + 2 ^ i < 18446744073709551616) : Go.bits .or .u64 (m : Int) ((2 ^ i : Nat) : Int) = ((m + 2 ^ i : Nat) : Int) := by
  have hp := Nat.two_pow_pos i
  have := or_high (2 ^ i) m (i + 1) (by rw [Nat.pow_succ]; omega) hm (by omega) (by omega)
  rw [this, Nat.add_comm]
theorem wroot_round (a b : Int) (h1 : Word a) (h2 : Word b) (m i : Nat) (hm : m % 2 ^ (i + 1) = 0) (hsum : m + 2 ^ i < 18446744073709551616) (k : Nat) :
    wide_Root.l0 (k + 1) (m : Int) ((2 ^ i : Nat) : Int) a b = if cmpN ((m + 2 ^ i) * (m + 2 ^ i)) (two a b) ≤ 0 then wide_Root.l0 k ((m + 2 ^ i : Nat) : Int) ((2 ^ i / 2 : Nat) : Int) a b else wide_Root.l0 k (m : Int) ((2 ^ i / 2 : Nat) : Int) a b := by
  have hp := Nat.two_pow_pos i
  have hmm : (m + 2 ^ i) * (m + 2 ^ i) < 340282366920938463463374607431768211456 := by
    have := Nat.mul_le_mul (show m + 2 ^ i ≤ 18446744073709551615 by omega) (show m + 2 ^ i ≤ 18446744073709551615 by omega)
    exact Nat.lt_of_le_of_lt this (by decide)
  have hz : (((2 ^ i : Nat) : Int) > 0) := by omega
  have hd : ((2 ^ i : Nat) : Int) / 2 = ((2 ^ i / 2 : Nat) : Int) := by omega
  have hw : Word ((m + 2 ^ i : Nat) : Int) := ⟨Int.natCast_nonneg _, by omega⟩
  have hor := or_bit m i hm hsum
  have hc := cmp_eq (hiW_word ((m + 2 ^ i) * (m + 2 ^ i))) (loW_word ((m + 2 ^ i) * (m + 2 ^ i))) h1 h2
  rw [two_hilo hmm] at hc
  simp only [wide_Root.l0]
  rw [if_pos hz, hd, hor, mul_eq hw hw]
  simp only [Option.bind_some, Int.toNat_natCast]
  exact (congrArg (fun o => Option.bind o _) hc).trans (Option.bind_some _ _)
theorem wroot_end (a b : Int) (h1 : Word a) (h2 : Word b) (m : Nat) (hm : m < 18446744073709551616) (hmm : m * m < 340282366920938463463374607431768211456) (k : Nat) : wide_Root.l0 (k + 1) (m : Int) 0 a b = some ((m : Int), decide (m * m = two a b)) := by
  have hw : Word (m : Int) := ⟨by omega, by omega⟩
  simp only [wide_Root.l0]
  rw [if_neg (by decide), mul_eq hw hw]
  simp only [Option.bind_some, Int.toNat_natCast]
  have e : (hiW (m * m) == a && loW (m * m) == b) = decide (m * m = two a b) := by
    rw [Bool.eq_iff_iff]
    simp only [Bool.and_eq_true, beq_iff_eq, decide_eq_true_eq]
    constructor
    · rintro ⟨e1, e2⟩
      rw [← two_hilo hmm, e1, e2]
    · intro e
      rw [e, hiW_two h1 h2, loW_two h1 h2]; exact ⟨rfl, rfl⟩
  rw [e]
theorem wroot_l0 (a b : Int) (h1 : Word a) (h2 : Word b) (i : Nat) : i ≤ 64 → ∀ (m : Nat), m % 2 ^ i = 0 → m + 2 ^ i ≤ 18446744073709551616 → m * m ≤ two a b → two a b < (m + 2 ^ i) * (m + 2 ^ i) →
    ∃ r, r < 18446744073709551616 ∧ r * r ≤ two a b ∧ two a b < (r + 1) * (r + 1) ∧ Ev (fun k => wide_Root.l0 k (m : Int) ((2 ^ i / 2 : Nat) : Int) a b) ((r : Int), decide (r * r = two a b)) := by
  induction i with
  | zero =>
    intro _ m _ hlt hle hgt
    have hm : m < 18446744073709551616 := by rw [Nat.pow_zero] at hlt; exact hlt
    rw [Nat.pow_zero] at hgt
    exact ⟨m, hm, hle, hgt, Ev.step (wroot_end a b h1 h2 m hm (Nat.lt_of_le_of_lt hle (two_lt h1 h2))) (Ev.now _)⟩
  | succ i ih =>
    intro hi m hm hlt hle hgt
    obtain ⟨p1, p2, p3⟩ := pow_room hlt
    have hhalf : 2 ^ (i + 1) / 2 = 2 ^ i := by rw [Nat.pow_succ]; exact Nat.mul_div_cancel _ (by decide)
    rw [hhalf]
    have hm0 := pow_halves hm
    have hi2 : i ≤ 64 := Nat.le_of_succ_le hi
    by_cases hle2 : (m + 2 ^ i) * (m + 2 ^ i) ≤ two a b
    · obtain ⟨r, r1, r2, r3, r4⟩ := ih hi2 (m + 2 ^ i) (by rw [Nat.add_mod_right]; exact hm0) p2 hle2 (root_next hgt)
      exact ⟨r, r1, r2, r3, Ev.step (fun k => (wroot_round a b h1 h2 m i hm p1 k).trans (if_pos (cmpN_le hle2))) r4⟩
    · obtain ⟨r, r1, r2, r3, r4⟩ := ih hi2 m hm0 p3 hle (Nat.lt_of_not_le hle2)
      exact ⟨r, r1, r2, r3, Ev.step (fun k => (wroot_round a b h1 h2 m i hm p1 k).trans (if_neg (cmpN_gt hle2))) r4⟩
theorem wroot_ev {a b : Int} (h1 : Word a) (h2 : Word b) : ∃ r, r < 18446744073709551616 ∧ r * r ≤ two a b ∧ two a b < (r + 1) * (r + 1) ∧ Ev (fun k => wide_Root.f k a b) ((r : Int), decide (r * r = two a b)) := by
  have hlt := two_lt h1 h2
  obtain ⟨r, r1, r2, r3, r4⟩ := wroot_l0 a b h1 h2 64 (by omega) 0 (by simp) (by simp) (by simp) (by rw [Nat.zero_add, p64]; exact hlt)
  exact ⟨r, r1, r2, r3, r4⟩
end Go.Proofs.Ytbejjlecpcphoaa.Q
