/-
  ref1.Shr and ref2.Shr: a shift to the right, and whether it lost a bit.
-/
import Derived.Test.YtbejjlecpcphoaaPx37
import Derived.Test.YtbejjlecpcphoaaPx38
import Derived.Test.YtbejjlecpcphoaaQ2
import Derived.Test.YtbejjlecpcphoaaQ4
namespace Go.Proofs.Ytbejjlecpcphoaa.Q
set_option linter.unusedVariables false
open Go.RowKit Go.Proofs.YtbejjlecpcphoaaW.PrintWords Go.Proofs.YtbejjlecpcphoaaW.PrintLast Go.Proofs.YtbejjlecpcphoaaW.PrintMore
open Go.Proofs.Ytbejjlecpcphoaa.P Go.Proofs.Ytbejjlecpcphoaa.LL Go.Proofs.Ytbejjlecpcphoaa.FM

theorem or_free (w m : Nat) (h : w / 2 ^ m % 2 = 0) : w ||| 2 ^ m = w + 2 ^ m := by
  have hb : w % 2 ^ m < 2 ^ m := Nat.mod_lt _ (Nat.two_pow_pos m)
  have hw : w = 2 ^ (m + 1) * (w / 2 ^ (m + 1)) + w % 2 ^ m := by
    have h1 := Nat.div_add_mod w (2 ^ m)
    have h2 := Nat.div_add_mod (w / 2 ^ m) 2
    rw [h, Nat.div_div_eq_div_mul, ← Nat.pow_succ] at h2
    have h3 : 2 ^ (m + 1) * (w / 2 ^ (m + 1)) = 2 ^ m * (w / 2 ^ m) := by
      rw [Nat.pow_succ, Nat.mul_assoc]
      congr 1
    rw [h3]; exact h1.symm
  generalize w / 2 ^ (m + 1) = a at hw
  generalize w % 2 ^ m = b at hw hb
  subst hw
  have hb2 : b < 2 ^ (m + 1) := Nat.lt_trans hb (Nat.pow_lt_pow_right (by decide) (Nat.lt_succ_self m))
  have hc2 : 2 ^ m * 1 + b < 2 ^ (m + 1) := by rw [Nat.pow_succ]; omega
  have e1 := Nat.two_pow_add_eq_or_of_lt hb2 a
  have e2 := Nat.two_pow_add_eq_or_of_lt hc2 a
  have e3 := Nat.two_pow_add_eq_or_of_lt hb 1
  rw [e1, Nat.or_assoc, Nat.or_comm b, ← Nat.mul_one (2 ^ m), ← e3, ← e2, ← e1, Nat.mul_one]
  omega
/-- One bit more. -/
theorem set_bit {l : List Int} (hl : Lb l) (j : Nat) (hj : j / 32 < l.length) (h : val l / 2 ^ j % 2 = 0) :
    Lb (l.set (j / 32) (Go.bits .or .u32 (rd l ((j / 32 : Nat) : Int)) (shl .u32 1 ((j % 32 : Nat) : Int)))) ∧ val (l.set (j / 32) (Go.bits .or .u32 (rd l ((j / 32 : Nat) : Int)) (shl .u32 1 ((j % 32 : Nat) : Int)))) = val l + 2 ^ j := by
  have hw : val l / 2 ^ (32 * (j / 32)) % 4294967296 < 4294967296 := Nat.mod_lt _ (by decide)
  have hm : j % 32 < 32 := Nat.mod_lt _ (by decide)
  have ep : 2 ^ j = 2 ^ (32 * (j / 32)) * 2 ^ (j % 32) := by rw [← Nat.pow_add]; congr 1; omega
  have hbit : val l / 2 ^ (32 * (j / 32)) % 4294967296 / 2 ^ (j % 32) % 2 = 0 := by
    rw [ep, ← Nat.div_div_eq_div_mul] at h
    generalize val l / 2 ^ (32 * (j / 32)) = v at *
    generalize j % 32 = m at *
    have e4 : (4294967296 : Nat) = 2 ^ m * (2 * 2 ^ (31 - m)) := by
      rw [show (4294967296 : Nat) = 2 ^ 32 from rfl, show 2 * 2 ^ (31 - m) = 2 ^ (32 - m) from by rw [← Nat.pow_succ']; congr 1; omega, ← Nat.pow_add]
      congr 1; omega
    rw [e4, Nat.mod_mul_right_div_self, Nat.mod_mul_right_mod, h]
  have hs := val_set hl (j / 32)
  rw [rd_val hl]
  generalize hW : val l / 2 ^ (32 * (j / 32)) % 4294967296 = w at *
  have hp : 2 ^ (j % 32) < 4294967296 := Nat.lt_of_lt_of_le (Nat.pow_lt_pow_right (by decide) hm) (by decide)
  have e1 : shl .u32 1 ((j % 32 : Nat) : Int) = ((2 ^ (j % 32) : Nat) : Int) := by
    have := shl32_nat 1 (j % 32) (Nat.le_of_lt hm)
    rw [Nat.one_mul, Nat.mod_eq_of_lt hp] at this
    exact this
  have hor : w ||| 2 ^ (j % 32) < 2 ^ 32 := Nat.or_lt_two_pow hw hp
  have e2 : Go.bits .or .u32 (w : Int) ((2 ^ (j % 32) : Nat) : Int) = ((w + 2 ^ (j % 32) : Nat) : Int) := by
    rw [(bits_nat .u32 32 (by decide) wraps_u32 w (2 ^ (j % 32)) hw hp).2, or_free w _ hbit]
  rw [or_free w _ hbit] at hor
  rw [e1, e2]
  have hs2 := hs ((w + 2 ^ (j % 32) : Nat) : Int) hj
  rw [Int.toNat_natCast, Nat.mul_add, ← ep] at hs2
  constructor
  · exact hl.set _ (Int.natCast_nonneg _) (Int.ofNat_lt.2 hor)
  · clear hs e1 e2; omega
theorem succ_w' {j : Nat} (h : j < 1000000000) : wrap64 ((j : Int) + 1) = ((j + 1 : Nat) : Int) := by
  rw [w64 (by omega) (by omega)]; omega
theorem div32 {j : Nat} (h : j < 1000000) : wrap64 (Int.tdiv (j : Int) 32) = ((j / 32 : Nat) : Int) ∧ IntKind.u64.wrap (Int.tmod (j : Int) 32) = ((j % 32 : Nat) : Int) := by
  constructor
  · rw [Int.tdiv_eq_ediv_of_nonneg (by omega), w64 (by omega) (by omega)]; omega
  · rw [Int.tmod_eq_emod_of_nonneg (by omega), wu (by omega) (by omega)]; omega
/-- A round of Shr whose bit is not there. -/
theorem shr_no (n : Int) (a o : List Int) (b : Bool) (i : Nat) (hi : (i : Int) < wrap64 (32 * (a.length : Int))) (hsm : i < 1000000) (hb : tabardref1_Bit.f a (i : Int) = some false) (k : Nat) :
    tabardref1_Shr.l0 (k + 2) n a o b (i : Int) = tabardref1_Shr.l0 k n a o b ((i + 1 : Nat) : Int) := by
  have e := succ_w' (show i < 1000000000 by omega)
  simp only [tabardref1_Shr.l0, tabardref1_Shr.j1]
  rw [if_pos hi, hb]
  simp only [Option.bind_some]
  rw [if_neg (by simp), if_neg (by simp), if_neg (by simp), e]
theorem shr_low (n : Int) (a o : List Int) (b : Bool) (i : Nat) (hi : (i : Int) < wrap64 (32 * (a.length : Int))) (hsm : i < 1000000) (hb : tabardref1_Bit.f a (i : Int) = some true) (hn : (i : Int) < n) (k : Nat) :
    tabardref1_Shr.l0 (k + 2) n a o b (i : Int) = tabardref1_Shr.l0 k n a o true ((i + 1 : Nat) : Int) := by
  have e := succ_w' (show i < 1000000000 by omega)
  simp only [tabardref1_Shr.l0, tabardref1_Shr.j1]
  rw [if_pos hi, hb]
  simp only [Option.bind_some]
  rw [if_pos trivial, if_pos (decide_eq_true hn), if_pos trivial, if_neg (show ¬ (i : Int) ≥ n by omega), e]
theorem shr_high (n j : Nat) (a o : List Int) (b : Bool) (i : Nat) (hi : (i : Int) < wrap64 (32 * (a.length : Int))) (hsm : i < 1000000) (hb : tabardref1_Bit.f a (i : Int) = some true) (hn : i = n + j) (ho : j / 32 < o.length) (k : Nat) :
    tabardref1_Shr.l0 (k + 2) (n : Int) a o b (i : Int) = tabardref1_Shr.l0 k (n : Int) a (o.set (j / 32) (Go.bits .or .u32 (rd o ((j / 32 : Nat) : Int)) (shl .u32 1 ((j % 32 : Nat) : Int)))) b ((i + 1 : Nat) : Int) := by
  have e := succ_w' (show i < 1000000000 by omega)
  have e1 : wrap64 ((i : Int) - (n : Int)) = (j : Int) := by rw [w64 (by omega) (by omega)]; omega
  obtain ⟨e2, e3⟩ := div32 (j := j) (by omega)
  have ho' : ((j / 32 : Nat) : Int) < (o.length : Int) := Int.ofNat_lt.2 ho
  have f1 : (0 : Int) ≤ ((j / 32 : Nat) : Int) := Int.natCast_nonneg _
  have f2 : (0 : Int) ≤ ((j % 32 : Nat) : Int) := Int.natCast_nonneg _
  have hge : (i : Int) ≥ (n : Int) := by omega
  have hlt : ¬ decide ((i : Int) < (n : Int)) = true := by rw [decide_eq_true_eq]; omega
  simp only [tabardref1_Shr.l0, tabardref1_Shr.j1]
  rw [if_pos hi, hb]
  simp only [Option.bind_some]
  rw [if_pos trivial, if_neg hlt, if_pos trivial, if_pos hge, e1, e2, e3, if_pos f1, if_pos ho', if_pos f2, Int.toNat_natCast, e]
theorem shr_l0 {a : List Int} (ha : Lb a) (hbig : a.length ≤ 256) (n : Nat) (d : Nat) : ∀ (i : Nat) (o : List Int) (b : Bool),
    i + d = 32 * a.length → Lb o → o.length = a.length → val o = val a % 2 ^ i / 2 ^ n → b = decide (val a % 2 ^ min i n ≠ 0) →
    Ev (fun k => tabardref1_Shr.l0 k (n : Int) a o b (i : Int)) (limbs (val a / 2 ^ n), decide (val a % 2 ^ n ≠ 0), 0) := by
  have ew : wrap64 (32 * (a.length : Int)) = ((32 * a.length : Nat) : Int) := by rw [w64 (by omega) (by omega)]; omega
  induction d with
  | zero =>
    intro i o b hi hlo hl ho hb
    have hv : val a % 2 ^ i = val a := Nat.mod_eq_of_lt (by have := val_lt ha; rwa [show i = 32 * a.length by omega])
    have hc : ¬ (i : Int) < wrap64 (32 * (a.length : Int)) := by rw [ew]; clear ew hv ho; omega
    have t := trim_ev hlo (by omega)
    rw [ho, hv] at t
    have hb2 : b = decide (val a % 2 ^ n ≠ 0) := by
      rw [hb]
      rcases Nat.le_total n i with h | h
      · rw [Nat.min_eq_right h]
      · rw [Nat.min_eq_left h, hv]
        have : val a < 2 ^ n := Nat.lt_of_lt_of_le (val_lt ha) (Nat.pow_le_pow_right (by decide) (by omega))
        rw [Nat.mod_eq_of_lt this]
    rw [← hb2]
    refine Ev.step (f := fun k => (tabardref1_Trim.f k o).bind fun t561 => (some (t561, b, 0))) (fun k => ?_) (Ev.bind t (Ev.now _))
    simp only [tabardref1_Shr.l0]
    rw [if_neg hc]
  | succ d ih =>
    intro i o b hi hlo hl ho hb
    have hc : (i : Int) < wrap64 (32 * (a.length : Int)) := by rw [ew]; clear ew ho; omega
    have hsm : i < 1000000 := by clear ew ho; omega
    have hbit := bit_eq ha i (by clear ew ho; omega)
    have hmod : val a % 2 ^ (i + 1) = val a % 2 ^ i + 2 ^ i * (val a / 2 ^ i % 2) := Nat.mod_pow_succ
    have hlt : val a % 2 ^ i < 2 ^ i := Nat.mod_lt _ (Nat.two_pow_pos i)
    clear ew
    have two {g f : Nat → Option (List Int × Bool × Int)} {r} (h : ∀ k, g (k + 2) = f k) (e : Ev f r) : Ev g r :=
      Ev.step (f := fun k => g (k + 1)) (fun _ => rfl) (Ev.step (f := f) h e)
    rw [Nat.testBit_eq_decide_div_mod_eq] at hbit
    by_cases ht : val a / 2 ^ i % 2 = 1
    · rw [decide_eq_true ht] at hbit
      rw [ht, Nat.mul_one] at hmod
      by_cases hn : i < n
      · refine two (fun k => shr_low (n : Int) a o b i hc hsm hbit (Int.ofNat_lt.2 hn) k) (ih (i + 1) o true (by omega) hlo hl ?_ ?_)
        · rw [ho, Nat.div_eq_of_lt (Nat.lt_of_lt_of_le hlt (Nat.pow_le_pow_right (by decide) (Nat.le_of_lt hn))), Nat.div_eq_of_lt (Nat.lt_of_lt_of_le (Nat.mod_lt _ (Nat.two_pow_pos _)) (Nat.pow_le_pow_right (by decide) hn))]
        · rw [Nat.min_eq_left hn, hmod]
          have := Nat.two_pow_pos i
          exact (decide_eq_true (by omega)).symm
      · have ep : 2 ^ i = 2 ^ n * 2 ^ (i - n) := by rw [← Nat.pow_add]; congr 1; omega
        have hol : val o < 2 ^ (i - n) := by
          rw [ho]; apply (Nat.div_lt_iff_lt_mul (Nat.two_pow_pos n)).2; rw [Nat.mul_comm, ← ep]; exact hlt
        obtain ⟨s1, s2⟩ := set_bit hlo (i - n) (by omega) (by rw [Nat.div_eq_of_lt hol])
        refine two (fun k => shr_high n (i - n) a o b i hc hsm hbit (by omega) (by omega) k) (ih (i + 1) _ b (by omega) s1 (by rw [List.length_set, hl]) ?_ ?_)
        · rw [s2, hmod, ho, ep, Nat.add_mul_div_left _ _ (Nat.two_pow_pos n)]
        · rw [hb, Nat.min_eq_right (by omega), Nat.min_eq_right (by omega)]
    · have h0 : val a / 2 ^ i % 2 = 0 := by omega
      rw [decide_eq_false ht] at hbit
      rw [h0, Nat.mul_zero] at hmod
      have hmod : val a % 2 ^ (i + 1) = val a % 2 ^ i := hmod
      refine two (fun k => shr_no (n : Int) a o b i hc hsm hbit k) (ih (i + 1) o b (by omega) hlo hl ?_ ?_)
      · rw [ho, hmod]
      · rw [hb]
        rcases Nat.lt_or_ge i n with h | h
        · rw [Nat.min_eq_left (Nat.le_of_lt h), Nat.min_eq_left h, hmod]
        · rw [Nat.min_eq_right h, Nat.min_eq_right (by omega)]
theorem rshr1_ev {V : Nat} (hV : (limbs V).length ≤ 256) (n : Nat) : Ev (fun k => tabardref1_Shr.f k (limbs V) (n : Int)) (limbs (V / 2 ^ n), decide (V % 2 ^ n ≠ 0), 0) := by
  have t := trim_ev (lb_limbs V) (by omega)
  rw [val_limbs] at t
  have b : Ev (fun k => tabardref1_Big.f k (limbs V)) false := by
    unfold tabardref1_Big.f
    refine Ev.bind t ?_
    rw [decide_eq_false (show ¬ ((limbs V).length : Int) > 256 by omega)]
    exact Ev.now _
  have h := shr_l0 (lb_limbs V) hV n (32 * (limbs V).length) 0 (List.replicate (limbs V).length 0) false (by omega) (Lb.replicate _) (List.length_replicate ..) (by rw [val_replicate]; simp [Nat.mod_one]) (by simp [Nat.mod_one])
  rw [val_limbs] at h
  unfold tabardref1_Shr.f
  refine Ev.congr (fun k => if_neg (show ¬ (n : Int) < 0 by omega)) (Ev.bind b (Ev.congr (fun k => if_neg (by simp)) (Ev.bind t ?_)))
  refine Ev.congr (fun k => (if_pos (Int.natCast_nonneg _)).trans (if_pos (by rw [Int.toNat_natCast]; omega))) ?_
  rw [Int.toNat_natCast]
  exact h
theorem rshr_ev {V : Nat} (hV : (limbs V).length ≤ 256) (n : Int) : Ev (fun k => tabardref2_Shr.f k (limbs V) n) (limbs (V / 2 ^ n.toNat), decide (V % 2 ^ n.toNat ≠ 0)) := by
  unfold tabardref2_Shr.f
  by_cases h : n < 0
  · have e : n.toNat = 0 := by omega
    rw [e]
    exact Ev.congr (fun k => if_pos h) (Ev.bind (rshr1_ev hV 0) (Ev.now _))
  · obtain ⟨m, rfl⟩ := Int.eq_ofNat_of_zero_le (show 0 ≤ n by omega)
    rw [Int.toNat_natCast]
    exact Ev.congr (fun k => if_neg h) (Ev.bind (rshr1_ev hV m) (Ev.now _))
end Go.Proofs.Ytbejjlecpcphoaa.Q
