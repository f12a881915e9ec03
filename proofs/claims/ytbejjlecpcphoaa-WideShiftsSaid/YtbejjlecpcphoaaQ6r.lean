/-
  The reference's root.
-/
import Derived.Test.YtbejjlecpcphoaaPx39
import Derived.Test.YtbejjlecpcphoaaQ2
import Derived.Test.YtbejjlecpcphoaaQ6a
namespace Go.Proofs.Ytbejjlecpcphoaa.Q
set_option linter.unusedVariables false
set_option linter.unusedSimpArgs false
open Go.RowKit Go.Proofs.YtbejjlecpcphoaaW.PrintWords Go.Proofs.YtbejjlecpcphoaaW.PrintLast Go.Proofs.YtbejjlecpcphoaaW.PrintMore
open Go.Proofs.Ytbejjlecpcphoaa.P Go.Proofs.Ytbejjlecpcphoaa.LL Go.Proofs.Ytbejjlecpcphoaa.FM

/-- .. and by the reference. -/
theorem rroot_round (l : List Int) (m i : Nat) (hi : i < 64) (hsum : m + 2 ^ i < 18446744073709551616) (k : Nat) :
    tabardref2_Root.l0 (k + 1) l (m : Int) (((i + 1 : Nat) : Int) - 1) = (tabardref2_Nat.f k 0 0 ((m + 2 ^ i : Nat) : Int)).bind fun t => (tabardref1_Times.f k t t).bind fun u => (tabardref1_Cmp.f k u l).bind fun c => if c ≤ 0 then tabardref2_Root.l0 k l ((m + 2 ^ i : Nat) : Int) ((i : Int) - 1) else tabardref2_Root.l0 k l (m : Int) ((i : Int) - 1) := by
  have f1 : (((i + 1 : Nat) : Int) - 1) = (i : Int) := by omega
  have f2 : (i : Int) ≥ 0 := Int.natCast_nonneg _
  have hp := Nat.two_pow_pos i
  have f3 : 2 ^ i < 18446744073709551616 := by omega
  have e1 : IntKind.u64.wrap (i : Int) = (i : Int) := wu (Int.natCast_nonneg _) (by omega)
  have e2 := shl_nat 1 i (Nat.le_of_lt hi)
  rw [Nat.one_mul, Nat.mod_eq_of_lt f3] at e2
  have e3 : IntKind.u64.wrap ((m : Int) + ((2 ^ i : Nat) : Int)) = ((m + 2 ^ i : Nat) : Int) := by
    rw [← Int.natCast_add]; exact wu (Int.natCast_nonneg _) (by clear e1 e2; omega)
  have e4 : wrap64 ((i : Int) - 1) = (i : Int) - 1 := w64 (by clear e1 e2 e3; omega) (by clear e1 e2 e3; omega)
  rw [f1]
  simp only [tabardref2_Root.l0]
  rw [if_pos f2, e1, if_pos f2]
  rw [show shl .u64 1 (i : Int) = ((2 ^ i : Nat) : Int) from e2, e3, e4]
theorem rroot_l0 {l : List Int} (hl : Lb l) (hlen : l.length < 1000000) (i : Nat) : i ≤ 64 → ∀ (m : Nat), m % 2 ^ i = 0 → m + 2 ^ i ≤ 18446744073709551616 → m * m ≤ val l → val l < (m + 2 ^ i) * (m + 2 ^ i) →
    ∃ r, r < 18446744073709551616 ∧ r * r ≤ val l ∧ val l < (r + 1) * (r + 1) ∧ Ev (fun k => tabardref2_Root.l0 k l (m : Int) ((i : Int) - 1)) (r : Int) := by
  induction i with
  | zero =>
    intro _ m _ hlt hle hgt
    have hm : m < 18446744073709551616 := by rw [Nat.pow_zero] at hlt; exact hlt
    rw [Nat.pow_zero] at hgt
    refine ⟨m, hm, hle, hgt, Ev.step (f := fun _ => some (m : Int)) (fun k => ?_) (Ev.now _)⟩
    simp only [tabardref2_Root.l0]
    rw [if_neg (by decide)]
  | succ i ih =>
    intro hi m hm hlt hle hgt
    obtain ⟨p1, p2, p3⟩ := pow_room hlt
    have hm0 := pow_halves hm
    have hi2 : i ≤ 64 := Nat.le_of_succ_le hi
    have hn := nat_ev (a := 0) (b := 0) (c := ((m + 2 ^ i : Nat) : Int)) (by decide) (by decide) (by decide) (by decide) (Int.natCast_nonneg _) (by omega)
    have hnv : ((m + 2 ^ i : Nat) : Int).toNat + 18446744073709551616 * (0 : Int).toNat + 340282366920938463463374607431768211456 * (0 : Int).toNat = m + 2 ^ i := by
      rw [Int.toNat_natCast]; simp
    rw [hnv] at hn
    have hll : (limbs (m + 2 ^ i)).length ≤ 2 := limbs_len_le (Nat.lt_of_lt_of_le p1 (by decide))
    have hll2 : (limbs (m + 2 ^ i)).length < 1000000 := Nat.lt_of_le_of_lt hll (by decide)
    have ht := rtimes_ev (lb_limbs (m + 2 ^ i)) (lb_limbs (m + 2 ^ i)) hll2 hll2
    rw [val_limbs] at ht
    have hmm : (m + 2 ^ i) * (m + 2 ^ i) < 2 ^ (32 * 4) := by
      have := Nat.mul_le_mul (show m + 2 ^ i ≤ 18446744073709551615 from Nat.le_of_lt_succ p1) (show m + 2 ^ i ≤ 18446744073709551615 from Nat.le_of_lt_succ p1)
      exact Nat.lt_of_le_of_lt this (by decide)
    have hl4 : (limbs ((m + 2 ^ i) * (m + 2 ^ i))).length < 1000000 := Nat.lt_of_le_of_lt (limbs_len_le hmm) (by decide)
    have hc := cmp_ev (lb_limbs ((m + 2 ^ i) * (m + 2 ^ i))) hl hl4 hlen
    rw [val_limbs] at hc
    by_cases hle2 : (m + 2 ^ i) * (m + 2 ^ i) ≤ val l
    · obtain ⟨r, r1, r2, r3, r4⟩ := ih hi2 (m + 2 ^ i) (by rw [Nat.add_mod_right]; exact hm0) p2 hle2 (root_next hgt)
      refine ⟨r, r1, r2, r3, Ev.step (rroot_round l m i hi p1) (Ev.bind hn (Ev.bind ht (Ev.bind hc ?_)))⟩
      exact Ev.congr (fun k => if_pos (cmpN_le hle2)) r4
    · obtain ⟨r, r1, r2, r3, r4⟩ := ih hi2 m hm0 p3 hle (Nat.lt_of_not_le hle2)
      refine ⟨r, r1, r2, r3, Ev.step (rroot_round l m i hi p1) (Ev.bind hn (Ev.bind ht (Ev.bind hc ?_)))⟩
      exact Ev.congr (fun k => if_neg (cmpN_gt hle2)) r4
theorem rroot_ev {l : List Int} (hl : Lb l) (hlen : l.length < 1000000) (hv : val l < 340282366920938463463374607431768211456) : ∃ r, r < 18446744073709551616 ∧ r * r ≤ val l ∧ val l < (r + 1) * (r + 1) ∧ Ev (fun k => tabardref2_Root.f k l) (r : Int) := by
  obtain ⟨r, r1, r2, r3, r4⟩ := rroot_l0 hl hlen 64 (by omega) 0 (by simp) (by simp) (by simp) (by rw [Nat.zero_add, p64]; exact hv)
  exact ⟨r, r1, r2, r3, r4⟩
end Go.Proofs.Ytbejjlecpcphoaa.Q
