/-
  The kinds, the parts, the neighbours of a float, in package float.
-/
import Derived.Test.YtbejjlecpcphoaaPx9
import Derived.Test.YtbejjlecpcphoaaQ4
namespace Go.Proofs.Ytbejjlecpcphoaa.Q
set_option linter.unusedVariables false
open Go.RowKit Go.Proofs.YtbejjlecpcphoaaW.PrintWords Go.Proofs.YtbejjlecpcphoaaW.PrintLast Go.Proofs.YtbejjlecpcphoaaW.PrintMore
open Go.Proofs.Ytbejjlecpcphoaa.P Go.Proofs.Ytbejjlecpcphoaa.LL Go.Proofs.Ytbejjlecpcphoaa.FM

theorem xor_low (y : Nat) (h : y < 9223372036854775808) : y ^^^ 9223372036854775808 = y + 9223372036854775808 := by
  have e := Nat.two_pow_add_eq_or_of_lt (i := 63) (b := y) (by rw [show (2 : Nat) ^ 63 = 9223372036854775808 from by decide]; exact h) 1
  rw [Nat.mul_one] at e
  rw [← show (2 : Nat) ^ 63 = 9223372036854775808 from by decide, Nat.add_comm, e]
  apply Nat.eq_of_testBit_eq
  intro i
  rw [Nat.testBit_xor, Nat.testBit_or, Nat.testBit_two_pow]
  by_cases hi : 63 = i
  · subst hi
    rw [Nat.testBit_lt_two_pow (by rw [show (2 : Nat) ^ 63 = 9223372036854775808 from by decide]; exact h)]; simp
  · rw [decide_eq_false hi]; simp
theorem xor_nat (x : Nat) (h : x < 18446744073709551616) : x ^^^ 9223372036854775808 = (x + 9223372036854775808) % 18446744073709551616 := by
  by_cases h2 : x < 9223372036854775808
  · rw [xor_low x h2, Nat.mod_eq_of_lt (by omega)]
  · obtain ⟨y, rfl⟩ : ∃ y, x = y + 9223372036854775808 := ⟨x - 9223372036854775808, by omega⟩
    rw [← xor_low y (by omega), Nat.xor_assoc, Nat.xor_self, Nat.xor_zero, xor_low y (by omega)]
    omega
theorem xor_top (x : Nat) (h : x < 18446744073709551616) : Go.bits .xor .u64 (x : Int) 9223372036854775808 = (((x + 9223372036854775808) % 18446744073709551616 : Nat) : Int) := by
  rw [← xor_nat x h]
  have e : (9223372036854775808 : Int) = ((9223372036854775808 : Nat) : Int) := rfl
  rw [e]
  have hx : x ^^^ 9223372036854775808 < 18446744073709551616 := by rw [xor_nat x h]; exact Nat.mod_lt _ (by decide)
  simp only [Go.bits, BitVec.ofInt_natCast, BitVec.toNat_xor, BitVec.toNat_ofNat]
  rw [show 2 ^ IntKind.u64.bits = 18446744073709551616 from by decide, Nat.mod_eq_of_lt h, Nat.mod_eq_of_lt (show 9223372036854775808 < 18446744073709551616 by decide)]
  exact wu (Int.natCast_nonneg _) (Int.ofNat_lt.2 hx)
theorem not_top (x : Nat) (h : x < 18446744073709551616) : Go.bits .andNot .u64 (x : Int) 9223372036854775808 = ((x % 9223372036854775808 : Nat) : Int) := by
  have e : (9223372036854775808 : Int) = ((9223372036854775808 : Nat) : Int) := rfl
  rw [e]
  simp only [Go.bits, BitVec.ofInt_natCast, BitVec.toNat_and, BitVec.toNat_not, BitVec.toNat_ofNat]
  rw [show 2 ^ IntKind.u64.bits = 18446744073709551616 from by decide, Nat.mod_eq_of_lt h, Nat.mod_eq_of_lt (show 9223372036854775808 < 18446744073709551616 by decide)]
  rw [show 18446744073709551616 - 1 - 9223372036854775808 = 2 ^ 63 - 1 from by decide, Nat.and_two_pow_sub_one_eq_mod, show (2 : Nat) ^ 63 = 9223372036854775808 from by decide]
  have : x % 9223372036854775808 < 18446744073709551616 := by omega
  exact wu (Int.natCast_nonneg _) (Int.ofNat_lt.2 this)
theorem and_low (x n : Nat) (h : n ≤ 64) (hx : x < 18446744073709551616) {m : Int} (hm : m = 2 ^ n - 1) : Go.bits .and .u64 (x : Int) m = ((x % 2 ^ n : Nat) : Int) := by
  rw [hm, bits_mask .u64 64 (by decide) wraps_u64 n h x (Int.natCast_nonneg _) (Int.ofNat_lt.2 hx)]
  simp

/-- The exponent's field, the mantissa's field, the kind. -/
@[irreducible] def fE (x : Nat) : Nat := x / 4503599627370496 % 2048
@[irreducible] def fM (x : Nat) : Nat := x % 4503599627370496
@[irreducible] def kd (x : Nat) : Int := if fE x = 2047 then (if fM x = 0 then 3 else 4) else if fE x = 0 then (if fM x = 0 then 0 else 1) else 2
theorem fE_lt (x : Nat) : fE x < 2048 := by unfold fE; exact Nat.mod_lt _ (by decide)
theorem fM_lt (x : Nat) : fM x < 4503599627370496 := by unfold fM; exact Nat.mod_lt _ (by decide)
theorem fE_eq (x : Nat) (h : x < 18446744073709551616) : Go.bits .and .u64 ((x : Int) / 4503599627370496) 2047 = ((fE x : Nat) : Int) := by
  have := and_low (x / 4503599627370496) 11 (by decide) (by omega) (m := 2047) (by decide)
  rw [show (2 : Nat) ^ 11 = 2048 from rfl] at this
  unfold fE; exact this
theorem fM_eq (x : Nat) (h : x < 18446744073709551616) : Go.bits .and .u64 (x : Int) 4503599627370495 = ((fM x : Nat) : Int) := by
  have := and_low x 52 (by decide) h (m := 4503599627370495) (by decide)
  rw [show (2 : Nat) ^ 52 = 4503599627370496 from rfl] at this
  unfold fM; exact this
theorem kd_cases (x : Nat) : kd x = 0 ∧ fE x = 0 ∧ fM x = 0 ∨ kd x = 1 ∧ fE x = 0 ∧ fM x ≠ 0 ∨ kd x = 2 ∧ fE x ≠ 0 ∧ fE x ≠ 2047 ∨ kd x = 3 ∧ fE x = 2047 ∧ fM x = 0 ∨ kd x = 4 ∧ fE x = 2047 ∧ fM x ≠ 0 := by
  unfold kd
  by_cases h1 : fE x = 2047
  · rw [if_pos h1]
    by_cases h2 : fM x = 0
    · rw [if_pos h2]; omega
    · rw [if_neg h2]; omega
  · rw [if_neg h1]
    by_cases h3 : fE x = 0
    · rw [if_pos h3]
      by_cases h2 : fM x = 0
      · rw [if_pos h2]; omega
      · rw [if_neg h2]; omega
    · rw [if_neg h3]; omega
theorem kind_ev (x : Nat) (h : x < 18446744073709551616) : Ev (fun k => float_Kind.f k (x : Int)) (kd x) := by
  have e1 := fE_eq x h
  have e2 := fM_eq x h
  unfold float_Kind.f
  rw [e1, e2]
  clear e1 e2
  have hM := fM_lt x
  have hE := fE_lt x
  have hk := kd_cases x
  generalize kd x = K at *
  generalize fE x = E at *
  generalize fM x = M at *
  have j0 : ∀ (b : Bool) (r : Int), (b = true → r = 4) → (b = false → r = if (E : Int) = 2047 then 3 else if (E : Int) > 0 then 2 else if (M : Int) > 0 then 1 else 0) → Ev (fun k => float_Kind.j0 k (E : Int) (M : Int) b) r := by
    intro b r h1 h2
    refine Ev.step (f := fun _ => some r) (fun k => ?_) (Ev.now _)
    simp only [float_Kind.j0]
    cases b with
    | true => rw [if_pos rfl, h1 rfl]
    | false => rw [if_neg (by simp), h2 rfl]; split <;> (try rfl); split <;> (try rfl); split <;> rfl
  by_cases h1 : (E : Int) = 2047
  · refine Ev.congr (fun k => if_pos h1) (j0 _ _ (fun hb => ?_) (fun hb => ?_))
    · have : (M : Int) ≠ 0 := by simpa using hb
      omega
    · have : (M : Int) = 0 := by simpa using hb
      rw [if_pos h1]; omega
  · refine Ev.congr (fun k => if_neg h1) (j0 _ _ (fun hb => by cases hb) (fun _ => ?_))
    rw [if_neg h1]
    split
    · omega
    · split <;> omega
/-- The parts. -/
@[irreducible] def sM (x : Nat) : Nat := if kd x = 2 then 4503599627370496 + fM x else if kd x < 2 then fM x else 0
@[irreducible] def sE (x : Nat) : Int := if kd x = 2 then (fE x : Int) - 1075 else if kd x < 2 then -1074 else 0
theorem split_ev (x : Nat) (h : x < 18446744073709551616) : Ev (fun k => float_Split.f k (x : Int)) (decide ((x : Int) ≥ 9223372036854775808), ((sM x : Nat) : Int), sE x) := by
  have e1 := fE_eq x h
  have e2 := fM_eq x h
  have hM := fM_lt x
  have hE := fE_lt x
  have hk := kd_cases x
  have hor := or_high (fM x) 4503599627370496 52 hM (by decide) (by decide) (by omega)
  unfold float_Split.f
  rw [e2]
  refine Ev.bind (kind_ev x h) ?_
  have j0 : ∀ b : Bool, (b = true → kd x < 2) → (kd x < 2 → b = true) → Ev (fun k => float_Split.j0 k (x : Int) (decide ((x : Int) ≥ 9223372036854775808)) ((fM x : Nat) : Int) (kd x) b) (decide ((x : Int) ≥ 9223372036854775808), ((sM x : Nat) : Int), sE x) := by
    intro b h1 h2
    unfold sM sE
    by_cases hb : b = true
    · have h3 := h1 hb
      subst hb
      rw [if_neg (show ¬ kd x = 2 by omega), if_pos h3, if_neg (show ¬ kd x = 2 by omega), if_pos h3]
      refine Ev.step (f := fun _ => some _) (fun k => ?_) (Ev.now _)
      simp only [float_Split.j0]; rw [if_pos trivial]
    · have h3 : ¬ kd x < 2 := fun hh => hb (h2 hh)
      refine Ev.step (f := fun _ => some _) (fun k => ?_) (Ev.now _)
      simp only [float_Split.j0]
      rw [if_neg hb]
      by_cases h4 : kd x = 2
      · rw [if_pos h4, if_pos h4, if_pos h4, e1]
        have w1 : wrap64 (wrap64 ((fE x : Nat) : Int) - 1075) = ((fE x : Nat) : Int) - 1075 := by rw [w64 (x := ((fE x : Nat) : Int)) (by clear e1 e2 hor; omega) (by clear e1 e2 hor; omega), w64 (by clear e1 e2 hor; omega) (by clear e1 e2 hor; omega)]
        have hor' : Go.bits .or .u64 4503599627370496 ((fM x : Nat) : Int) = ((4503599627370496 + fM x : Nat) : Int) := by rw [Nat.add_comm]; exact hor
        rw [w1, hor']
      · rw [if_neg h4, if_neg h4, if_neg h4, if_neg h3, if_neg h3]; rfl
  by_cases h0 : kd x = 0
  · exact Ev.congr (fun k => if_pos h0) (j0 _ (fun _ => by rw [h0]; decide) (fun _ => by rw [h0]; rfl))
  · refine Ev.congr (fun k => if_neg h0) (j0 _ (fun hb => ?_) (fun hl => ?_))
    · have : kd x = 1 := by simpa using hb
      rw [this]; decide
    · have : kd x = 1 := by clear e1 e2 hor; omega
      rw [this]; rfl
@[irreducible] def ngt (x : Nat) : Nat := if kd x = 4 then 9221120237041090560 else (x + 9223372036854775808) % 18446744073709551616
theorem neg_ev (x : Nat) (h : x < 18446744073709551616) : Ev (fun k => float_Neg.f k (x : Int)) ((ngt x : Nat) : Int) := by
  unfold float_Neg.f
  rw [xor_top x h]
  refine Ev.bind (kind_ev x h) ?_
  unfold ngt
  by_cases h4 : kd x = 4
  · refine Ev.congr (fun k => if_pos h4) ?_
    rw [if_pos h4]; exact Ev.now _
  · refine Ev.congr (fun k => if_neg h4) ?_
    rw [if_neg h4]; exact Ev.now _
theorem ngt_lt (x : Nat) : ngt x < 18446744073709551616 := by
  unfold ngt
  split
  · decide
  · exact Nat.mod_lt _ (by decide)
end Go.Proofs.Ytbejjlecpcphoaa.Q
