/-
  ref1.Shl, ref2.Shl and ref1.Parts: a shift to the left; the quotient and the remainder.
-/
import Derived.Test.YtbejjlecpcphoaaPx38
import Derived.Test.YtbejjlecpcphoaaPx39
import Derived.Test.YtbejjlecpcphoaaQ9
namespace Go.Proofs.Ytbejjlecpcphoaa.Q
set_option linter.unusedVariables false
open Go.RowKit Go.Proofs.YtbejjlecpcphoaaW.PrintWords Go.Proofs.YtbejjlecpcphoaaW.PrintLast Go.Proofs.YtbejjlecpcphoaaW.PrintMore
open Go.Proofs.Ytbejjlecpcphoaa.P Go.Proofs.Ytbejjlecpcphoaa.LL Go.Proofs.Ytbejjlecpcphoaa.FM

theorem limbs_short {n m : Nat} (h : n < 2 ^ (32 * m)) (hm : m < 1000000) : (limbs n).length < 1000000 := Nat.lt_of_le_of_lt (limbs_len_le h) hm
theorem big_ev {V : Nat} (hV : (limbs V).length ≤ 256) : Ev (fun k => tabardref1_Big.f k (limbs V)) false := by
  have t := trim_ev (lb_limbs V) (by omega)
  rw [val_limbs] at t
  unfold tabardref1_Big.f
  refine Ev.bind t ?_
  rw [decide_eq_false (show ¬ ((limbs V).length : Int) > 256 by omega)]
  exact Ev.now _
theorem shl_l0 (n : Int) (m : Nat) (hm : Int.tmod n 32 = (m : Int)) (hm2 : m < 32) (d : Nat) : ∀ (i : Nat) (l : List Int), i + d = m → Lb l → l.length + d < 900000 →
    Ev (fun k => tabardref1_Shl.l0 k n l (i : Int)) (limbs (val l * 2 ^ d), 0) := by
  induction d with
  | zero =>
    intro i l hi hl hlen
    have t := trim_ev hl (by omega)
    have hc : ¬ (i : Int) < Int.tmod n 32 := by rw [hm]; omega
    rw [Nat.pow_zero, Nat.mul_one]
    refine Ev.step (f := fun k => (tabardref1_Trim.f k l).bind fun t593 => (some (t593, 0))) (fun k => ?_) (Ev.bind t (Ev.now _))
    simp only [tabardref1_Shl.l0]
    rw [if_neg hc]
  | succ d ih =>
    intro i l hi hl hlen
    have t := twice_ev hl (by omega) false
    have e2 : 2 * val l + false.toNat = 2 * val l := rfl
    rw [e2] at t
    have hv := val_lt hl
    have hl2 : (limbs (2 * val l)).length ≤ l.length + 1 := limbs_len_le (by rw [pow32]; omega)
    have hc : (i : Int) < Int.tmod n 32 := by rw [hm]; omega
    have hi2 := ih (i + 1) (limbs (2 * val l)) (by omega) (lb_limbs _) (by omega)
    have e3 : val l * 2 ^ (d + 1) = val (limbs (2 * val l)) * 2 ^ d := by rw [val_limbs, Nat.pow_succ, Nat.mul_comm (2 ^ d), ← Nat.mul_assoc, Nat.mul_comm (val l)]
    rw [e3]
    have e := succ_w' (show i < 1000000000 by omega)
    refine Ev.step (f := fun k => (tabardref1_Twice.f k l false).bind fun t590 => (tabardref1_Shl.l0 k n t590 ((i + 1 : Nat) : Int))) (fun k => ?_) (Ev.bind t hi2)
    simp only [tabardref1_Shl.l0]
    rw [if_pos hc, e]
theorem rshl1_ev {V : Nat} (hV : (limbs V).length ≤ 4) (n : Nat) (hn : n ≤ 127) : Ev (fun k => tabardref1_Shl.f k (limbs V) (n : Int)) (limbs (V * 2 ^ n), 0) := by
  have t := trim_ev (lb_limbs V) (by omega)
  rw [val_limbs] at t
  have b := big_ev (V := V) (by omega)
  unfold tabardref1_Shl.f
  refine Ev.congr (fun k => if_neg (show ¬ (n : Int) < 0 by omega)) (Ev.bind b (Ev.congr (fun k => if_neg (by simp)) (Ev.bind t ?_)))
  by_cases h0 : V = 0
  · subst h0
    rw [Nat.zero_mul, limbs_zero]
    exact Ev.congr (fun k => if_pos rfl) (Ev.now _)
  have hne : ¬ ((limbs V).length : Int) = 0 := by
    have := val_limbs V
    intro h
    have h2 : limbs V = [] := List.length_eq_zero_iff.1 (by omega)
    rw [h2] at this
    exact h0 this.symm
  have l1 := len_ev (lb_limbs V) (by omega)
  rw [val_limbs] at l1
  have hbl : blen V ≤ 128 := blen_le_of_lt (by have := val_lt (lb_limbs V); rw [val_limbs] at this; exact Nat.lt_of_lt_of_le this (Nat.pow_le_pow_right (by decide) (by omega)))
  refine Ev.congr (fun k => if_neg hne) (Ev.congr (fun k => if_neg (show ¬ (n : Int) > 8192 by omega)) (Ev.bind l1 ?_))
  have e1 : decide (wrap64 (((blen V : Nat) : Int) + (n : Int)) > 8192) = false := by
    rw [w64 (by omega) (by omega)]; exact decide_eq_false (by omega)
  rw [e1]
  have e2 : wrap64 (Int.tdiv (n : Int) 32) = ((n / 32 : Nat) : Int) := by rw [Int.tdiv_eq_ediv_of_nonneg (by omega), w64 (by omega) (by omega)]; omega
  have e3 : Int.tmod (n : Int) 32 = ((n % 32 : Nat) : Int) := by rw [Int.tmod_eq_emod_of_nonneg (by omega)]; rfl
  have hlb : Lb (List.replicate (n / 32) 0 ++ limbs V) := (Lb.replicate _).append (lb_limbs V)
  have hval : val (List.replicate (n / 32) 0 ++ limbs V) = V * 2 ^ (32 * (n / 32)) := by
    rw [val_append, val_replicate, List.length_replicate, val_limbs, Nat.zero_add, Nat.mul_comm]
  have hlen : (List.replicate (n / 32) (0 : Int) ++ limbs V).length ≤ 8 := by rw [List.length_append, List.length_replicate]; omega
  have h := shl_l0 (n : Int) (n % 32) e3 (Nat.mod_lt _ (by decide)) (n % 32) 0 _ (by omega) hlb (by omega)
  rw [hval, Nat.mul_assoc, ← Nat.pow_add, show 32 * (n / 32) + n % 32 = n by omega] at h
  have f1 : (0 : Int) ≤ ((n / 32 : Nat) : Int) := Int.natCast_nonneg _
  have f2 : n / 32 ≤ 70368744177664 := by omega
  have f3 : (List.replicate (n / 32) (0 : Int)).length + (limbs V).length < 35184372088832 := by rw [List.length_replicate]; omega
  refine Ev.step (fun k => ?_) h
  simp only [tabardref1_Shl.j0]
  rw [if_neg (by simp), e2, if_pos f1, Int.toNat_natCast, if_pos f2]
  simp only [Option.bind_some]
  rw [if_pos f3]; rfl
theorem mul_mod_mid (a b c : Nat) : a * (b * c) % b = 0 := by rw [Nat.mul_left_comm]; exact Nat.mul_mod_right _ _
theorem rshl_j0 {V : Nat} (hV : (limbs V).length ≤ 4) (n : Nat) : Ev (fun k => tabardref2_Shl.j0 k (limbs V) (n : Int)) (limbs (V * 2 ^ n % 340282366920938463463374607431768211456)) := by
  by_cases h : n > 127
  · have e : V * 2 ^ n % 340282366920938463463374607431768211456 = 0 := by
      have : (2 : Nat) ^ n = 340282366920938463463374607431768211456 * 2 ^ (n - 128) := by
        rw [← show (2 : Nat) ^ 128 = 340282366920938463463374607431768211456 from by decide, ← Nat.pow_add, show 128 + (n - 128) = n by omega]
      rw [this]; exact mul_mod_mid _ _ _
    rw [e, limbs_zero]
    refine Ev.step (f := fun _ => some []) (fun k => ?_) (Ev.now _)
    simp only [tabardref2_Shl.j0]
    rw [if_pos (show (n : Int) > 127 by omega)]
  · have h1 := rshl1_ev hV n (by omega)
    have hlen : (limbs (V * 2 ^ n)).length ≤ 8 := limbs_len_le (by
      have := val_lt (lb_limbs V); rw [val_limbs] at this
      have h2 : V < 2 ^ 128 := Nat.lt_of_lt_of_le this (Nat.pow_le_pow_right (by decide) (by omega))
      have := Nat.mul_lt_mul_of_pos_right h2 (Nat.two_pow_pos n)
      rw [← Nat.pow_add] at this
      exact Nat.lt_of_lt_of_le this (Nat.pow_le_pow_right (by decide) (by omega)))
    refine Ev.step (f := fun k => (tabardref1_Shl.f k (limbs V) (n : Int)).bind fun bt596 => (if (bt596.1.length : Int) > 4 then (if 4 ≤ (bt596.1.length : Int) then ((tabardref1_Trim.f k (bt596.1.take (4 : Int).toNat)).bind fun t603 => (some t603)) else (none)) else ((tabardref1_Trim.f k bt596.1).bind fun t606 => (some t606)))) (fun k => ?_) (Ev.bind h1 ?_)
    · simp only [tabardref2_Shl.j0]
      rw [if_neg (show ¬ (n : Int) > 127 by omega)]
    by_cases hc : ((limbs (V * 2 ^ n)).length : Int) > 4
    · have t := trim_ev ((lb_limbs (V * 2 ^ n)).take 4) (by rw [List.length_take]; omega)
      rw [val_take (lb_limbs _), val_limbs, show (2 : Nat) ^ (32 * 4) = 340282366920938463463374607431768211456 from by decide] at t
      exact Ev.congr (fun k => (if_pos hc).trans (if_pos (Int.le_of_lt hc))) (Ev.bind t (Ev.now _))
    · have t := trim_ev (lb_limbs (V * 2 ^ n)) (by omega)
      have hlt : V * 2 ^ n < 340282366920938463463374607431768211456 := by
        have := val_lt (lb_limbs (V * 2 ^ n)); rw [val_limbs] at this
        exact Nat.lt_of_lt_of_le this (Nat.le_trans (Nat.pow_le_pow_right (by decide) (show 32 * (limbs (V * 2 ^ n)).length ≤ 128 by omega)) (by decide))
      rw [val_limbs] at t
      rw [Nat.mod_eq_of_lt hlt]
      exact Ev.congr (fun k => if_neg hc) (Ev.bind t (Ev.now _))
theorem rshl_ev {V : Nat} (hV : (limbs V).length ≤ 4) (n : Int) : Ev (fun k => tabardref2_Shl.f k (limbs V) n) (limbs (V * 2 ^ n.toNat % 340282366920938463463374607431768211456)) := by
  unfold tabardref2_Shl.f
  by_cases h : n < 0
  · have e : n.toNat = 0 := by omega
    rw [e]
    exact Ev.congr (fun k => if_pos h) (rshl_j0 hV 0)
  · obtain ⟨m, rfl⟩ := Int.eq_ofNat_of_zero_le (show 0 ≤ n by omega)
    rw [Int.toNat_natCast]
    exact Ev.congr (fun k => if_neg h) (rshl_j0 hV m)
/-- A bit of a quotient. -/
theorem quot_yes {A b Y : Nat} (hY : 0 < Y) (h : Y ≤ 2 * (A % Y) + b) (hb : b ≤ 1) : (2 * A + b) / Y = 2 * (A / Y) + 1 ∧ (2 * A + b) % Y = 2 * (A % Y) + b - Y := by
  have hm : A % Y < Y := Nat.mod_lt _ hY
  have e : 2 * A + b = Y * (2 * (A / Y) + 1) + (2 * (A % Y) + b - Y) := by
    have := Nat.div_add_mod A Y
    rw [Nat.mul_add, Nat.mul_left_comm]
    generalize Y * (A / Y) = z at *; omega
  have hl : 2 * (A % Y) + b - Y < Y := by omega
  rw [e, Nat.mul_add_div hY, Nat.mul_add_mod, Nat.div_eq_of_lt hl, Nat.mod_eq_of_lt hl]; exact ⟨rfl, rfl⟩
theorem quot_no {A b Y : Nat} (hY : 0 < Y) (h : ¬ Y ≤ 2 * (A % Y) + b) : (2 * A + b) / Y = 2 * (A / Y) ∧ (2 * A + b) % Y = 2 * (A % Y) + b := by
  have e : 2 * A + b = Y * (2 * (A / Y)) + (2 * (A % Y) + b) := by
    have := Nat.div_add_mod A Y
    rw [Nat.mul_left_comm]
    generalize Y * (A / Y) = z at *; omega
  have hl : 2 * (A % Y) + b < Y := by omega
  rw [e, Nat.mul_add_div hY, Nat.mul_add_mod, Nat.div_eq_of_lt hl, Nat.mod_eq_of_lt hl]; exact ⟨rfl, rfl⟩
theorem less_w {i : Nat} (h : i < 1000000) : wrap64 ((i : Int) - 1) = (i : Int) - 1 := w64 (by omega) (by omega)
theorem parts_yes (a y q r r2 : List Int) (i : Nat) (t : Bool) (r1 : List Int) (c : Int) (hi : i < 1000000) (hq : i / 32 < q.length) (hb : tabardref1_Bit.f a (i : Int) = some t) (k : Nat)
    (h1 : tabardref1_Twice.f k r t = some r1) (h2 : tabardref1_Cmp.f k r1 y = some c) (hc : c ≥ 0) (h3 : tabardref1_Less.f k r1 y = some r2) :
    tabardref1_Parts.l0 (k + 1) a y q r (i : Int) = tabardref1_Parts.l0 k a y (q.set (i / 32) (Go.bits .or .u32 (rd q ((i / 32 : Nat) : Int)) (shl .u32 1 ((i % 32 : Nat) : Int)))) r2 ((i : Int) - 1) := by
  have e := less_w hi
  obtain ⟨e2, e3⟩ := div32 hi
  have hq' : ((i / 32 : Nat) : Int) < (q.length : Int) := Int.ofNat_lt.2 hq
  have f0 : (i : Int) ≥ 0 := Int.natCast_nonneg _
  have f1 : (0 : Int) ≤ ((i / 32 : Nat) : Int) := Int.natCast_nonneg _
  have f2 : (0 : Int) ≤ ((i % 32 : Nat) : Int) := Int.natCast_nonneg _
  simp only [tabardref1_Parts.l0]
  rw [if_pos f0, bind_eq hb, bind_eq h1, bind_eq h2, if_pos hc, bind_eq h3, e2, e3, if_pos f1, if_pos hq', if_pos f2, Int.toNat_natCast, e]
theorem parts_no (a y q r : List Int) (i : Nat) (t : Bool) (r1 : List Int) (c : Int) (hi : i < 1000000) (hb : tabardref1_Bit.f a (i : Int) = some t) (k : Nat)
    (h1 : tabardref1_Twice.f k r t = some r1) (h2 : tabardref1_Cmp.f k r1 y = some c) (hc : ¬ c ≥ 0) :
    tabardref1_Parts.l0 (k + 1) a y q r (i : Int) = tabardref1_Parts.l0 k a y q r1 ((i : Int) - 1) := by
  have e := less_w hi
  have f0 : (i : Int) ≥ 0 := Int.natCast_nonneg _
  simp only [tabardref1_Parts.l0]
  rw [if_pos f0, bind_eq hb, bind_eq h1, bind_eq h2, if_neg hc, e]
theorem Ev.late {α : Type} {g f : Nat → Option α} {r : α} (K : Nat) (h : ∀ k, K ≤ k → g (k + 1) = f k) (k : Ev f r) : Ev g r := by
  obtain ⟨n, hn⟩ := k
  refine ⟨max n K + 1, fun m hm => ?_⟩
  obtain ⟨j, rfl⟩ : ∃ j, m = j + 1 := ⟨m - 1, by omega⟩
  rw [h j (by omega)]
  exact hn j (by omega)
theorem parts_l0 {a y : List Int} (ha : Lb a) (hy : Lb y) (hbig : a.length ≤ 256) (hbig2 : y.length ≤ 256) (hY : 0 < val y) (i : Nat) : ∀ (q : List Int) (A : Nat),
    i ≤ 32 * a.length → Lb q → q.length = a.length → A = val a / 2 ^ i → val q = A / val y * 2 ^ i →
    Ev (fun k => tabardref1_Parts.l0 k a y q (limbs (A % val y)) ((i : Int) - 1)) (limbs (val a / val y), limbs (val a % val y)) := by
  have small : ∀ A, A < val y → (limbs A).length ≤ 256 := fun A h => Nat.le_trans (limbs_len_le (Nat.lt_trans h (val_lt hy))) hbig2
  induction i with
  | zero =>
    intro q A hi hlo hl hA hq
    rw [Nat.pow_zero, Nat.div_one] at hA
    rw [Nat.pow_zero, Nat.mul_one] at hq
    subst hA
    have hm : val a % val y < val y := Nat.mod_lt _ hY
    have t1 := trim_ev hlo (by omega)
    have t2 := trim_ev (lb_limbs (val a % val y)) (by have := small _ hm; omega)
    rw [hq] at t1
    rw [val_limbs] at t2
    refine Ev.step (f := fun k => (tabardref1_Trim.f k q).bind fun t612 => ((tabardref1_Trim.f k (limbs (val a % val y))).bind fun t615 => (some (t612, t615)))) (fun k => ?_) (Ev.bind t1 (Ev.bind t2 (Ev.now _)))
    simp only [tabardref1_Parts.l0]
    rw [if_neg (by omega)]
  | succ i ih =>
    intro q A hi hlo hl hA hq
    have hm : A % val y < val y := Nat.mod_lt _ hY
    have hsm := small _ hm
    have hbit := bit_eq ha i (by omega)
    have hA2 : val a / 2 ^ i = 2 * A + ((val a).testBit i).toNat := by
      rw [hA, Nat.pow_succ, ← Nat.div_div_eq_div_mul, Nat.testBit_eq_decide_div_mod_eq]
      generalize val a / 2 ^ i = z
      rcases Nat.mod_two_eq_zero_or_one z with h | h
      · rw [h]; simp; omega
      · rw [h]; simp; omega
    generalize ht : (val a).testBit i = t at *
    have hb1 : t.toNat ≤ 1 := by cases t <;> decide
    have w1 := twice_ev (lb_limbs (A % val y)) (by omega) t
    rw [val_limbs] at w1
    have hlen1 : (limbs (2 * (A % val y) + t.toNat)).length ≤ 257 := by
      refine Nat.le_trans (limbs_len_le (m := y.length + 1) ?_) (by omega)
      have := val_lt hy
      rw [pow32]; omega
    have c1 := cmp_ev (lb_limbs (2 * (A % val y) + t.toNat)) hy (by omega) (by omega)
    rw [val_limbs] at c1
    have eidx : (((i + 1 : Nat) : Int) - 1) = (i : Int) := by omega
    rw [eidx]
    have hqm : val q / 2 ^ i % 2 = 0 := by
      rw [hq, Nat.pow_succ, Nat.mul_comm (2 ^ i), ← Nat.mul_assoc, Nat.mul_div_cancel _ (Nat.two_pow_pos i), Nat.mul_mod_left]
    by_cases hge : val y ≤ 2 * (A % val y) + t.toNat
    · obtain ⟨d1, d2⟩ := quot_yes hY hge hb1
      obtain ⟨s1, s2⟩ := set_bit hlo i (by omega) hqm
      have l1 := less_ev (lb_limbs (2 * (A % val y) + t.toNat)) hy (by omega) (by rw [val_limbs]; exact hge)
      rw [val_limbs] at l1
      obtain ⟨K1, g1⟩ := w1
      obtain ⟨K2, g2⟩ := c1
      obtain ⟨K3, g3⟩ := l1
      have := ih _ (2 * A + t.toNat) (by omega) s1 (by rw [List.length_set]; exact hl) hA2.symm (by rw [s2, hq, d1, Nat.pow_succ, Nat.add_mul, Nat.one_mul, Nat.mul_comm (2 ^ i) 2, ← Nat.mul_assoc, Nat.mul_comm (A / val y) 2])
      rw [d2] at this
      exact Ev.late (max K1 (max K2 K3)) (fun k hk => parts_yes a y q _ _ i t _ _ (by omega) (by omega) hbit k (g1 k (by omega)) (g2 k (by omega)) (cmpN_ge hge) (g3 k (by omega))) this
    · obtain ⟨d1, d2⟩ := quot_no hY hge
      obtain ⟨K1, g1⟩ := w1
      obtain ⟨K2, g2⟩ := c1
      have := ih q (2 * A + t.toNat) (by omega) hlo hl hA2.symm (by rw [hq, d1, Nat.pow_succ, Nat.mul_comm (2 ^ i) 2, ← Nat.mul_assoc, Nat.mul_comm (A / val y) 2])
      rw [d2] at this
      exact Ev.late (max K1 K2) (fun k hk => parts_no a y q _ i t _ _ (by omega) hbit k (g1 k (by omega)) (g2 k (by omega)) (cmpN_lt hge)) this
theorem parts2_ev {V Y : Nat} (h1 : (limbs V).length ≤ 256) (h2 : (limbs Y).length ≤ 256) (hY : 0 < Y) : Ev (fun k => tabardref1_Parts.f k (limbs V) (limbs Y)) (limbs (V / Y), limbs (V % Y)) := by
  have hd : V / 2 ^ (32 * (limbs V).length) = 0 := Nat.div_eq_of_lt (by have := val_lt (lb_limbs V); rwa [val_limbs] at this)
  have h := parts_l0 (lb_limbs V) (lb_limbs Y) h1 h2 (by rw [val_limbs]; exact hY) (32 * (limbs V).length) (List.replicate (limbs V).length 0) 0 (Nat.le_refl _) (Lb.replicate _) (List.length_replicate ..) (by rw [val_limbs, hd]) (by rw [val_replicate, Nat.zero_div, Nat.zero_mul])
  rw [val_limbs, val_limbs, Nat.zero_mod, limbs_zero] at h
  have e : wrap64 (wrap64 (32 * ((limbs V).length : Int)) - 1) = ((32 * (limbs V).length : Nat) : Int) - 1 := by
    rw [w64 (x := 32 * ((limbs V).length : Int)) (by omega) (by omega), w64 (by omega) (by omega)]; omega
  unfold tabardref1_Parts.f
  refine Ev.congr (fun k => (if_pos (Int.natCast_nonneg _)).trans (if_pos (by rw [Int.toNat_natCast]; omega))) ?_
  rw [Int.toNat_natCast, e]
  exact h
end Go.Proofs.Ytbejjlecpcphoaa.Q
