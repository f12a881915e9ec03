/-
  The reference's Round gives the nearest number.
-/
import Derived.Test.YtbejjlecpcphoaaPx14
import Derived.Test.YtbejjlecpcphoaaPx12
import Derived.Test.YtbejjlecpcphoaaPx13
import Derived.Test.YtbejjlecpcphoaaQ2
import Derived.Test.YtbejjlecpcphoaaQF3
namespace Go.Proofs.Ytbejjlecpcphoaa.Q
set_option linter.unusedVariables false
open Go.RowKit Go.Proofs.YtbejjlecpcphoaaW.PrintWords Go.Proofs.YtbejjlecpcphoaaW.PrintLast Go.Proofs.YtbejjlecpcphoaaW.PrintMore
open Go.Proofs.Ytbejjlecpcphoaa.P Go.Proofs.Ytbejjlecpcphoaa.LL Go.Proofs.Ytbejjlecpcphoaa.FM

theorem mod_twice (z m : Nat) : z % 2 ^ (m + 1) = 2 * (z / 2 % 2 ^ m) + z % 2 := by
  rw [Nat.pow_succ, Nat.mul_comm, Nat.mod_mul]; omega
theorem from_l0 {l : List Int} (hl : Lb l) (p : Nat) (hp : p < 1000000) (i : Nat) : ∀ (acc : Nat), i ≤ 64 → acc = val l / 2 ^ (p + i) % 2 ^ (64 - i) →
    Ev (fun k => tabardref3_from.l0 k l (p : Int) (acc : Int) ((i : Int) - 1)) ((val l / 2 ^ p % 18446744073709551616 : Nat) : Int) := by
  induction i with
  | zero =>
    intro acc _ ha
    rw [Nat.add_zero, Nat.sub_zero, p64] at ha
    rw [← ha]
    refine Ev.step (f := fun _ => some (acc : Int)) (fun k => ?_) (Ev.now _)
    simp only [tabardref3_from.l0]
    rw [if_neg (by omega)]
  | succ i ih =>
    intro acc hi ha
    have hb := bit_eq hl (p + i) (by omega)
    have e0 : (((i + 1 : Nat) : Int) - 1) = (i : Int) := by omega
    rw [e0]
    have e1 : wrap64 ((p : Int) + (i : Int)) = ((p + i : Nat) : Int) := by rw [w64 (by omega) (by omega)]; rfl
    have e2 : wrap64 ((i : Int) - 1) = (i : Int) - 1 := w64 (by omega) (by omega)
    have hz : val l / 2 ^ (p + (i + 1)) = val l / 2 ^ (p + i) / 2 := by rw [Nat.div_div_eq_div_mul, ← Nat.add_assoc, Nat.pow_succ]
    have hm := mod_twice (val l / 2 ^ (p + i)) (64 - (i + 1))
    rw [show 64 - (i + 1) + 1 = 64 - i by omega, ← hz, ← ha] at hm
    have hlt : val l / 2 ^ (p + i) % 2 ^ (64 - i) < 18446744073709551616 := by
      refine Nat.lt_of_lt_of_le (Nat.mod_lt _ (Nat.two_pow_pos _)) ?_
      rw [← p64]; exact Nat.pow_le_pow_right (by decide) (by omega)
    have f0 : (i : Int) ≥ 0 := Int.natCast_nonneg _
    rw [Nat.testBit_eq_decide_div_mod_eq] at hb
    clear hz ha
    have ht2 : val l / 2 ^ (p + i) % 2 < 2 := Nat.mod_lt _ (by decide)
    have hib := ih (val l / 2 ^ (p + i) % 2 ^ (64 - i)) (by omega) rfl
    generalize val l / 2 ^ (p + i) % 2 ^ (64 - i) = w at *
    generalize val l / 2 ^ (p + i) % 2 = t at *
    have d2 : IntKind.u64.wrap (2 * (acc : Int)) = ((2 * acc : Nat) : Int) := by rw [wu (by clear e1 e2; omega) (by clear e1 e2; omega)]; rfl
    by_cases ht : t = 1
    · rw [decide_eq_true ht] at hb
      have d3 : IntKind.u64.wrap (((2 * acc : Nat) : Int) + 1) = (w : Int) := by rw [wu (by clear e1 e2 d2; omega) (by clear e1 e2 d2; omega)]; clear e1 e2 d2; omega
      refine Ev.step (fun k => ?_) hib
      simp only [tabardref3_from.l0]
      rw [if_pos f0, e1, bind_eq hb, if_pos rfl, d2, d3, e2]
    · rw [decide_eq_false ht] at hb
      have hw : w = 2 * acc := by
        clear e1 e2 d2; omega
      refine Ev.step (fun k => ?_) hib
      simp only [tabardref3_from.l0]
      rw [if_pos f0, e1, bind_eq hb, if_neg (by simp), d2, e2, hw]
theorem from_ev {l : List Int} (hl : Lb l) (p : Nat) (hp : p < 1000000) : Ev (fun k => tabardref3_from.f k l (p : Int)) ((val l / 2 ^ p % 18446744073709551616 : Nat) : Int) := by
  unfold tabardref3_from.f
  exact from_l0 hl p hp 64 0 (Nat.le_refl _) (by rw [Nat.sub_self, Nat.pow_zero, Nat.mod_one])
theorem low_l0 {l : List Int} (hl : Lb l) (hbig : l.length < 10000) (p : Nat) (hp : p < 1000000) (d : Nat) : ∀ i : Nat, i + d = p → val l % 2 ^ i = 0 →
    Ev (fun k => tabardref3_low.l0 k l (p : Int) (i : Int)) (decide (val l % 2 ^ p ≠ 0)) := by
  induction d with
  | zero =>
    intro i hi h0
    have : i = p := by omega
    subst this
    rw [decide_eq_false (by rw [h0]; simp)]
    refine Ev.step (f := fun k => tabardref3_low.j1 k l (i : Int) (i : Int) false) (fun k => ?_) (Ev.step (f := fun _ => some false) (fun k => ?_) (Ev.now _))
    · simp only [tabardref3_low.l0]; rw [if_neg (by omega)]
    · simp only [tabardref3_low.j1]; rw [if_neg (by simp)]
  | succ d ih =>
    intro i hi h0
    have hb := bit_eq hl i (by omega)
    have ew : wrap64 (32 * (l.length : Int)) = ((32 * l.length : Nat) : Int) := by rw [w64 (by omega) (by omega)]; omega
    have e2 : wrap64 ((i : Int) + 1) = ((i + 1 : Nat) : Int) := by rw [w64 (by omega) (by omega)]; rfl
    have hc : (i : Int) < (p : Int) := by clear ew e2; omega
    rw [Nat.testBit_eq_decide_div_mod_eq] at hb
    by_cases hin : i < 32 * l.length
    · have s1 : ∀ k, tabardref3_low.l0 (k + 1) l (p : Int) (i : Int) = tabardref3_low.j1 k l (p : Int) (i : Int) true := fun k => by
        simp only [tabardref3_low.l0]
        rw [if_pos hc, ew, decide_eq_true (show (i : Int) < ((32 * l.length : Nat) : Int) by clear ew e2; omega)]
      have hmod : val l % 2 ^ (i + 1) = val l % 2 ^ i + 2 ^ i * (val l / 2 ^ i % 2) := Nat.mod_pow_succ
      by_cases ht : val l / 2 ^ i % 2 = 1
      · rw [decide_eq_true ht] at hb
        have hne : val l % 2 ^ p ≠ 0 := by
          intro hz
          have h5 : val l % 2 ^ (i + 1) = 0 := by
            have : 2 ^ p = 2 ^ (i + 1) * 2 ^ d := by rw [← Nat.pow_add]; congr 1; clear ew e2; omega
            rw [this] at hz
            have := Nat.mod_mul_right_mod (val l) (2 ^ (i + 1)) (2 ^ d)
            rw [hz, Nat.zero_mod] at this
            exact this.symm
          have := Nat.two_pow_pos i
          rw [h5, h0, ht] at hmod
          clear ew e2; omega
        rw [decide_eq_true hne]
        refine Ev.step s1 (Ev.step (f := fun _ => some true) (fun k => ?_) (Ev.now _))
        simp only [tabardref3_low.j1]
        rw [if_pos trivial, bind_eq hb, if_pos rfl]
      · rw [decide_eq_false ht] at hb
        have hz : val l / 2 ^ i % 2 = 0 := by clear ew e2; omega
        rw [h0, hz] at hmod
        refine Ev.step s1 (Ev.step (fun k => ?_) (ih (i + 1) (by clear ew e2; omega) hmod))
        simp only [tabardref3_low.j1]
        rw [if_pos trivial, bind_eq hb, if_neg (by simp), e2]
    · have hv : val l = 0 := by
        have := val_lt hl
        have h5 : val l < 2 ^ i := Nat.lt_of_lt_of_le this (Nat.pow_le_pow_right (by decide) (by clear ew e2; omega))
        rw [Nat.mod_eq_of_lt h5] at h0; exact h0
      rw [hv, Nat.zero_mod, decide_eq_false (by simp)]
      refine Ev.step (f := fun k => tabardref3_low.j1 k l (p : Int) (i : Int) false) (fun k => ?_) (Ev.step (f := fun _ => some false) (fun k => ?_) (Ev.now _))
      · simp only [tabardref3_low.l0]
        rw [if_pos hc, ew, decide_eq_false (show ¬ (i : Int) < ((32 * l.length : Nat) : Int) by clear ew e2; omega)]
      · simp only [tabardref3_low.j1]; rw [if_neg (by simp)]
theorem low_ev {l : List Int} (hl : Lb l) (hbig : l.length < 10000) (p : Nat) (hp : p < 1000000) : Ev (fun k => tabardref3_low.f k l (p : Int)) (decide (val l % 2 ^ p ≠ 0)) := by
  unfold tabardref3_low.f
  exact low_l0 hl hbig p hp p 0 (by omega) (by rw [Nat.pow_zero, Nat.mod_one])
theorem up_l0 (n : Int) (m : Nat) (hm : Int.tmod n 32 = (m : Int)) (hm2 : m < 32) (d : Nat) : ∀ (i : Nat) (l : List Int), i + d = m → Lb l → l.length + d < 900000 →
    Ev (fun k => tabardref3_Up.l0 k n l (i : Int)) (limbs (val l * 2 ^ d)) := by
  induction d with
  | zero =>
    intro i l hi hl hlen
    have t := trim_ev hl (by omega)
    have hc : ¬ (i : Int) < Int.tmod n 32 := by rw [hm]; omega
    rw [Nat.pow_zero, Nat.mul_one]
    refine Ev.step (f := fun k => (tabardref1_Trim.f k l).bind fun t593 => (some t593)) (fun k => ?_) (Ev.bind t (Ev.now _))
    simp only [tabardref3_Up.l0]
    rw [if_neg hc]
  | succ d ih =>
    intro i l hi hl hlen
    have t := twice_ev hl (by omega) false
    have e2 : 2 * val l + false.toNat = 2 * val l := rfl
    rw [e2] at t
    have hv := val_lt hl
    have hl2 : (limbs (2 * val l)).length ≤ l.length + 1 := limbs_len_le (by rw [pow32]; omega)
    have hc : (i : Int) < Int.tmod n 32 := by rw [hm]; omega
    have hi2 := ih (i + 1) (limbs (2 * val l)) (by omega) (lb_limbs _) (by omega)
    have e3 : val l * 2 ^ (d + 1) = val (limbs (2 * val l)) * 2 ^ d := by rw [val_limbs, Nat.pow_succ, Nat.mul_comm (2 ^ d), ← Nat.mul_assoc, Nat.mul_comm (val l)]
    rw [e3]
    have e : wrap64 ((i : Int) + 1) = ((i + 1 : Nat) : Int) := by rw [w64 (by omega) (by omega)]; rfl
    refine Ev.step (f := fun k => (tabardref1_Twice.f k l false).bind fun t590 => (tabardref3_Up.l0 k n t590 ((i + 1 : Nat) : Int))) (fun k => ?_) (Ev.bind t hi2)
    simp only [tabardref3_Up.l0]
    rw [if_pos hc, e]
theorem up_evl {l : List Int} (hl : Lb l) (hV : l.length ≤ 400) (n : Nat) (hn : n ≤ 10000) : Ev (fun k => tabardref3_Up.f k l (n : Int)) (limbs (val l * 2 ^ n)) := by
  have e2 : wrap64 (Int.tdiv (n : Int) 32) = ((n / 32 : Nat) : Int) := by rw [Int.tdiv_eq_ediv_of_nonneg (by omega), w64 (by omega) (by omega)]; omega
  have e3 : Int.tmod (n : Int) 32 = ((n % 32 : Nat) : Int) := by rw [Int.tmod_eq_emod_of_nonneg (by omega)]; rfl
  have hlb : Lb (List.replicate (n / 32) 0 ++ l) := (Lb.replicate _).append hl
  have hval : val (List.replicate (n / 32) 0 ++ l) = val l * 2 ^ (32 * (n / 32)) := by
    rw [val_append, val_replicate, List.length_replicate, Nat.zero_add, Nat.mul_comm]
  have hlen : (List.replicate (n / 32) (0 : Int) ++ l).length ≤ 1000 := by rw [List.length_append, List.length_replicate]; omega
  have h := up_l0 (n : Int) (n % 32) e3 (Nat.mod_lt _ (by decide)) (n % 32) 0 _ (by omega) hlb (by omega)
  rw [hval, Nat.mul_assoc, ← Nat.pow_add, show 32 * (n / 32) + n % 32 = n by omega] at h
  have f1 : (0 : Int) ≤ ((n / 32 : Nat) : Int) := Int.natCast_nonneg _
  have f2 : n / 32 ≤ 70368744177664 := by omega
  have f3 : (List.replicate (n / 32) (0 : Int)).length + l.length < 35184372088832 := by rw [List.length_replicate]; omega
  refine Ev.congr (fun k => ?_) h
  unfold tabardref3_Up.f
  rw [e2, if_pos f1, Int.toNat_natCast, if_pos f2]
  simp only [Option.bind_some]
  rw [if_pos f3]; rfl
theorem up_ev {V : Nat} (hV : (limbs V).length ≤ 256) (n : Nat) (hn : n ≤ 10000) : Ev (fun k => tabardref3_Up.f k (limbs V) (n : Int)) (limbs (V * 2 ^ n)) := by
  have h := up_evl (lb_limbs V) (by omega) n hn
  rwa [val_limbs] at h
end Go.Proofs.Ytbejjlecpcphoaa.Q
