/-
  What is cut off a long number counts as a little more, where it is rounded.
-/
import Derived.Test.YtbejjlecpcphoaaQA
namespace Go.Proofs.Ytbejjlecpcphoaa.Q
set_option linter.unusedVariables false
set_option linter.unusedSimpArgs false
open Go.RowKit Go.Proofs.YtbejjlecpcphoaaW.PrintWords Go.Proofs.YtbejjlecpcphoaaW.PrintLast Go.Proofs.YtbejjlecpcphoaaW.PrintMore
open Go.Proofs.Ytbejjlecpcphoaa.LL Go.Proofs.Ytbejjlecpcphoaa.FM

/-- What is cut off a long number counts as a little more. -/
theorem rq_scale_more (n i j : Nat) (more : Bool) : rq (n * 2 ^ j) (i + 1 + j) more = rq n (i + 1) more := by
  unfold rq
  have e1 : i + 1 + j - 1 = i + j := by omega
  rw [e1]
  have hp := Nat.two_pow_pos j
  have hd : n * 2 ^ j / 2 ^ (i + 1 + j) = n / 2 ^ (i + 1) := by
    rw [Nat.pow_add 2 (i+1) j, Nat.mul_div_mul_right _ _ hp]
  have hm : n * 2 ^ j % 2 ^ (i + 1 + j) = (n % 2 ^ (i + 1)) * 2 ^ j := by
    rw [Nat.pow_add 2 (i+1) j, Nat.mul_mod_mul_right]
  rw [hd, hm, Nat.pow_add 2 i j, Nat.add_sub_cancel]
  simp only [Nat.mul_lt_mul_right hp, Nat.mul_right_cancel_iff hp]
theorem near_scale_more {n : Nat} (e : Int) {j : Nat} (more : Bool) (hn : 54 ≤ blen n) : near (n * 2 ^ j) (e - j) more = near n e more := by
  have h1 : n ≠ 0 := by rintro rfl; simp [blen] at hn
  have hp := Nat.two_pow_pos j
  have h2 : n * 2 ^ j ≠ 0 := Nat.mul_ne_zero h1 (by omega)
  unfold near
  have hu : ulp (n * 2 ^ j) (e - j) = ulp n e := by
    have := ulp_scale (r := 0) e h1 hp; rw [Nat.add_zero] at this; exact this
  rw [if_neg h1, if_neg h2, hu]
  have h3 : e + 1 ≤ ulp n e := by unfold ulp; omega
  have : rqi (n * 2 ^ j) (ulp n e - (e - j)) more = rqi n (ulp n e - e) more := by
    obtain ⟨k, hk⟩ : ∃ k : Nat, ulp n e - e = (k : Int) + 1 := ⟨(ulp n e - e - 1).toNat, by omega⟩
    have h3 : ulp n e - (e - j) = ((k + 1 + j : Nat) : Int) := by omega
    have h4 : ulp n e - e = ((k + 1 : Nat) : Int) := by omega
    rw [h3, h4]
    unfold rqi
    rw [if_neg (by omega), if_neg (by omega), Int.toNat_natCast, Int.toNat_natCast]
    exact rq_scale_more n k j more
  rw [this]
theorem near_cut (n j : Nat) (e : Int) (more : Bool) (hn : 54 ≤ blen (n / 2 ^ j)) : near n e more = near (n / 2 ^ j) (e + j) (more || decide (n % 2 ^ j ≠ 0)) := by
  have hd := Nat.div_add_mod n (2 ^ j)
  have hp := Nat.two_pow_pos j
  have ee : e = e + j - j := by omega
  by_cases h : n % 2 ^ j = 0
  · rw [decide_eq_false (show ¬ n % 2 ^ j ≠ 0 from fun hh => hh h), Bool.or_false]
    rw [h, Nat.add_zero, Nat.mul_comm] at hd
    have s := near_scale_more (e + j) more hn (j := j)
    rw [hd, ← ee] at s
    exact s
  · rw [decide_eq_true h, Bool.or_true]
    have s := near_sticky (n := n / 2 ^ j) (e + j) more hn (r := n % 2 ^ j) (by omega) (Nat.mod_lt _ hp)
    rw [Nat.mul_comm, hd, ← ee] at s
    exact s
end Go.Proofs.Ytbejjlecpcphoaa.Q
