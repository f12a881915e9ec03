/-
  Join of package float gives the nearest number.
-/
import Derived.Test.YtbejjlecpcphoaaPx8
import Derived.Test.YtbejjlecpcphoaaPx3
import Derived.Test.YtbejjlecpcphoaaPx4
import Derived.Test.YtbejjlecpcphoaaPx7
import Derived.Test.YtbejjlecpcphoaaQ5
namespace Go.Proofs.Ytbejjlecpcphoaa.Q
set_option linter.unusedVariables false
open Go.RowKit Go.Proofs.YtbejjlecpcphoaaW.PrintWords Go.Proofs.YtbejjlecpcphoaaW.PrintLast Go.Proofs.YtbejjlecpcphoaaW.PrintMore
open Go.Proofs.Ytbejjlecpcphoaa.P Go.Proofs.Ytbejjlecpcphoaa.LL Go.Proofs.Ytbejjlecpcphoaa.FM

/-- With its sign. -/
@[irreducible] def sgn (neg : Bool) (b : Nat) : Nat := if neg = true then b + 9223372036854775808 else b
theorem sgn_true (b : Nat) : sgn true b = b + 9223372036854775808 := by unfold sgn; rfl
theorem sgn_false (b : Nat) : sgn false b = b := by unfold sgn; rfl
theorem or_sign (b : Nat) (h : b ≤ 9218868437227405312) : Go.bits .or .u64 (b : Int) 9223372036854775808 = ((b + 9223372036854775808 : Nat) : Int) :=
  or_low b 9223372036854775808 63 (Nat.lt_of_le_of_lt h (by decide)) (by decide) (by decide) (Nat.lt_of_le_of_lt h (by decide))
/-- The bits of a mantissa and an exponent. -/
@[irreducible] def bitsOf (m : Nat) (u : Int) : Nat := min ((u + 1074).toNat * 4503599627370496 + m) 9218868437227405312
theorem bitsOf_le (m : Nat) (u : Int) : bitsOf m u ≤ 9218868437227405312 := by unfold bitsOf; exact Nat.min_le_right _ _
theorem bitsOf_top (u : Int) (h : -1074 ≤ u) : bitsOf 9007199254740992 u = bitsOf 4503599627370496 (u + 1) := by
  have e : (u + 1074).toNat * 4503599627370496 + 9007199254740992 = (u + 1 + 1074).toNat * 4503599627370496 + 4503599627370496 := by omega
  unfold bitsOf
  rw [e]
theorem bitsOf_inf {m : Nat} {u : Int} (hm : 4503599627370496 ≤ m) (hu : 972 ≤ u) : bitsOf m u = 9218868437227405312 := by
  unfold bitsOf; exact Nat.min_eq_right (by omega)
theorem bitsOf_fin {m : Nat} {u : Int} (hm : m < 9007199254740992) (h0 : -1074 ≤ u) (hu : u < 972) : bitsOf m u = (u + 1074).toNat * 4503599627370496 + m := by
  unfold bitsOf; exact Nat.min_eq_left (by omega)
theorem pack_j1 (neg : Bool) (m : Nat) (u : Int) (b : Bool) (r : Nat) (h1 : b = true → r = 9218868437227405312) (h2 : b = false → m < 9007199254740992 ∧ -1074 ≤ u ∧ u < 972 ∧ (u = -1074 ∨ 4503599627370496 ≤ m) ∧ r = (u + 1074).toNat * 4503599627370496 + m) :
    Ev (fun k => float_pack.j1 k neg (m : Int) u b) ((sgn neg r : Nat) : Int) := by
  refine Ev.step (f := fun _ => some ((sgn neg r : Nat) : Int)) (fun k => ?_) (Ev.now _)
  simp only [float_pack.j1]
  cases b with
  | true =>
    have e := h1 rfl
    subst e
    have o := or_sign 9218868437227405312 (Nat.le_refl _)
    rw [if_pos rfl]
    cases neg with
    | true => rw [if_pos rfl, sgn_true]; exact congrArg some o
    | false => rw [if_neg (by simp), sgn_false]; rfl
  | false =>
    obtain ⟨a1, a2, a3, a4, a5⟩ := h2 rfl
    rw [if_neg (by simp)]
    have hr : r ≤ 9218868437227405312 := by omega
    have o := or_sign r hr
    by_cases hm : (m : Int) ≥ 4503599627370496
    · have e1 : wrap64 (wrap64 (u + 1075) - 1) = u + 1074 := by rw [w64 (x := u + 1075) (by omega) (by omega), w64 (by omega) (by omega)]; omega
      have e2 : IntKind.u64.wrap (IntKind.u64.wrap (u + 1074) * 4503599627370496) = (((u + 1074).toNat * 4503599627370496 : Nat) : Int) := by
        rw [wu (x := u + 1074) (by omega) (by omega), wu (by omega) (by omega)]; omega
      have e3 : IntKind.u64.wrap ((m : Int) + (((u + 1074).toNat * 4503599627370496 : Nat) : Int)) = (r : Int) := by
        rw [wu (by omega) (by omega)]; omega
      rw [if_pos hm, e1, e2, e3, o]
      cases neg with
      | true => rw [if_pos rfl, sgn_true]
      | false => rw [if_neg (by simp), sgn_false]
    · have e : r = m := by omega
      subst e
      rw [if_neg hm, o]
      cases neg with
      | true => rw [if_pos rfl, sgn_true]
      | false => rw [if_neg (by simp), sgn_false]
theorem pack_j0 (neg : Bool) (m : Nat) (u : Int) (hm : m < 9007199254740992) (h0 : -1074 ≤ u) (hu : u < 100000) (hn : u = -1074 ∨ 4503599627370496 ≤ m) :
    Ev (fun k => float_pack.j0 k neg (m : Int) u) ((sgn neg (bitsOf m u) : Nat) : Int) := by
  have e1 : wrap64 (u + 1075) = u + 1075 := w64 (by omega) (by omega)
  by_cases h : (m : Int) ≥ 4503599627370496
  · refine Ev.step (fun k => ?_) (pack_j1 neg m u (decide (u + 1075 ≥ 2047)) (bitsOf m u) (fun hb => ?_) (fun hb => ?_))
    · simp only [float_pack.j0]
      rw [if_pos h, e1]
    · have := of_decide_eq_true hb
      exact bitsOf_inf (by clear e1; omega) (by clear e1; omega)
    · have := of_decide_eq_false hb
      exact ⟨hm, h0, by clear e1; omega, hn, bitsOf_fin hm h0 (by clear e1; omega)⟩
  · refine Ev.step (fun k => ?_) (pack_j1 neg m u false (bitsOf m u) (fun hb => by cases hb) (fun hb => ?_))
    · simp only [float_pack.j0]
      rw [if_neg h]
    · exact ⟨hm, h0, by clear e1; omega, hn, bitsOf_fin hm h0 (by clear e1; omega)⟩
theorem pack_ev (neg : Bool) (m : Nat) (u : Int) (hm : m ≤ 9007199254740992) (h0 : -1074 ≤ u) (hu : u < 99999) (hn : u = -1074 ∨ 4503599627370496 ≤ m) :
    Ev (fun k => float_pack.f k neg (m : Int) u) ((sgn neg (bitsOf m u) : Nat) : Int) := by
  unfold float_pack.f
  by_cases h : (m : Int) = 9007199254740992
  · have e : m = 9007199254740992 := by omega
    have e1 : wrap64 (u + 1) = u + 1 := w64 (by omega) (by omega)
    rw [e, bitsOf_top u h0, e1]
    exact Ev.congr (fun k => if_pos rfl) (pack_j0 neg 4503599627370496 (u + 1) (by decide) (by clear e1; omega) (by clear e1; omega) (Or.inr (Nat.le_refl _)))
  · exact Ev.congr (fun k => if_neg h) (pack_j0 neg m u (by omega) h0 (by omega) hn)
/-- The rounding, by its bits. -/
theorem rq_bits (n d : Nat) (more : Bool) : rq n (d + 1) more = n / 2 ^ (d + 1) + if n / 2 ^ d % 2 = 1 ∧ (n % 2 ^ d ≠ 0 ∨ more = true ∨ n / 2 ^ (d + 1) % 2 = 1) then 1 else 0 := by
  unfold rq
  rw [Nat.add_sub_cancel]
  have hm : n % 2 ^ (d + 1) = n % 2 ^ d + 2 ^ d * (n / 2 ^ d % 2) := Nat.mod_pow_succ
  have hl : n % 2 ^ d < 2 ^ d := Nat.mod_lt _ (Nat.two_pow_pos d)
  rw [hm]
  generalize n / 2 ^ (d + 1) = q
  generalize n % 2 ^ d = s at *
  generalize 2 ^ d = p at *
  have h2 : n / p % 2 < 2 := Nat.mod_lt _ (by decide)
  generalize n / p % 2 = t at *
  congr 1
  have : (p < s + p * t ∨ p = s + p * t ∧ (more = true ∨ q % 2 = 1)) ↔ (t = 1 ∧ (s ≠ 0 ∨ more = true ∨ q % 2 = 1)) := by
    rcases (show t = 0 ∨ t = 1 by omega) with h | h
    · subst h; rw [Nat.mul_zero, Nat.add_zero]; omega
    · subst h; rw [Nat.mul_one]
      constructor
      · rintro (h | ⟨h, h3⟩)
        · exact ⟨rfl, Or.inl (by omega)⟩
        · exact ⟨rfl, Or.inr h3⟩
      · rintro ⟨_, h | h⟩
        · left; omega
        · by_cases hs : s = 0
          · right; exact ⟨by omega, h⟩
          · left; omega
  simp only [this]
theorem near_tiny {n : Nat} {e : Int} (more : Bool) (h : e + blen n < -1075) : near n e more = 0 := by
  unfold near
  split
  · rfl
  · have hu : ulp n e = -1074 := by unfold ulp; omega
    rw [hu]
    unfold rqi
    rw [if_neg (by omega)]
    obtain ⟨d, hd⟩ : ∃ d : Nat, (-1074 - e).toNat = d + 1 := ⟨(-1074 - e).toNat - 1, by omega⟩
    rw [hd, rq_bits]
    have hlt : n < 2 ^ d := Nat.lt_of_lt_of_le (lt_blen n) (Nat.pow_le_pow_right (by decide) (by omega))
    rw [Nat.div_eq_of_lt hlt, Nat.div_eq_of_lt (Nat.lt_trans hlt (Nat.pow_lt_pow_right (by decide) (Nat.lt_succ_self d))), if_neg (by simp)]
    rfl
theorem near_huge {n : Nat} {e : Int} (more : Bool) (hn : n ≠ 0) (h : e > 2000) : near n e more = 9218868437227405312 := by
  unfold near
  rw [if_neg hn]
  have := blen_pos hn
  have hu : ulp n e ≥ 1948 := by unfold ulp; omega
  exact Nat.min_eq_right (by omega)
theorem near_bits {n : Nat} {e : Int} (more : Bool) (hn : n ≠ 0) : near n e more = bitsOf (rqi n (ulp n e - e) more) (ulp n e) := by
  unfold near bitsOf; rw [if_neg hn]
theorem far_zero (neg : Bool) (long e : Int) : Ev (fun k => float_far.j0 k neg e true) (((sgn neg 0 : Nat) : Int), true) := by
  have hp := pack_ev neg 0 (-1074) (by decide) (by decide) (by decide) (Or.inl rfl)
  have hb : bitsOf 0 (-1074) = 0 := by unfold bitsOf; decide
  rw [hb] at hp
  have hp0 : Ev (fun k => float_pack.f k neg 0 0) ((sgn neg 0 : Nat) : Int) := by
    unfold float_pack.f
    refine Ev.congr (fun k => if_neg (by decide)) ?_
    refine Ev.step (f := fun k => float_pack.j1 k neg 0 0 false) (fun k => ?_) ?_
    · simp only [float_pack.j0]; rw [if_neg (by decide)]
    · refine Ev.step (f := fun _ => some ((sgn neg 0 : Nat) : Int)) (fun k => ?_) (Ev.now _)
      simp only [float_pack.j1]
      rw [if_neg (by simp), if_neg (by decide)]
      cases neg with
      | true => rw [if_pos rfl, sgn_true]; exact congrArg some (or_sign 0 (by decide))
      | false => rw [if_neg (by simp), sgn_false]; rfl
  refine Ev.step (f := fun k => (float_pack.f k neg 0 0).bind fun t104 => (some (t104, true))) (fun k => ?_) (Ev.bind hp0 (Ev.now _))
  simp only [float_far.j0]
  rw [if_pos trivial]
theorem far_inf (neg : Bool) (e : Int) (h : e > 2000) : Ev (fun k => float_far.j0 k neg e false) (((sgn neg 9218868437227405312 : Nat) : Int), true) := by
  have hp := pack_ev neg 4503599627370496 2047 (by decide) (by decide) (by decide) (Or.inr (by decide))
  rw [bitsOf_inf (by decide) (by decide)] at hp
  refine Ev.step (f := fun k => (float_pack.f k neg 4503599627370496 2047).bind fun t105 => (some (t105, true))) (fun k => ?_) (Ev.bind hp (Ev.now _))
  simp only [float_far.j0]
  rw [if_neg (by simp), if_pos h]
theorem far_no (neg : Bool) (e : Int) (h : ¬ e > 2000) : Ev (fun k => float_far.j0 k neg e false) (0, false) := by
  refine Ev.step (f := fun _ => some (0, false)) (fun k => ?_) (Ev.now _)
  simp only [float_far.j0]
  rw [if_neg (by simp), if_neg h]
/-- far: what settle gives at once. -/
theorem far_ev (neg : Bool) (n : Nat) (e : Int) (more : Bool) (hl : blen n ≤ 128) (h0 : -9223372036854775808 ≤ e) :
    Ev (fun k => float_far.f k neg ((blen n : Nat) : Int) e) (((sgn neg (near n e more) : Nat) : Int), true) ∨ (n ≠ 0 ∧ -12128 ≤ e ∧ e ≤ 2000 ∧ Ev (fun k => float_far.f k neg ((blen n : Nat) : Int) e) (0, false)) := by
  unfold float_far.f
  by_cases hn : n = 0
  · left
    have e1 : near n e more = 0 := by unfold near; rw [if_pos hn]
    rw [e1, hn]
    exact Ev.congr (fun k => if_pos (by rw [blen_zero]; rfl)) (far_zero neg 0 e)
  have hp := blen_pos hn
  have hne : ¬ ((blen n : Nat) : Int) = 0 := by omega
  by_cases h1 : e < -10000
  · have ew : wrap64 (e + ((blen n : Nat) : Int)) = e + ((blen n : Nat) : Int) := w64 (by omega) (by omega)
    by_cases h2 : e + ((blen n : Nat) : Int) < -2000
    · left
      rw [near_tiny more (by clear ew; omega)]
      refine Ev.congr (fun k => (if_neg hne).trans (if_pos h1)) ?_
      rw [ew, decide_eq_true h2]
      exact far_zero neg 0 e
    · exfalso; clear ew; omega
  · by_cases h3 : e > 2000
    · left
      rw [near_huge more hn h3]
      exact Ev.congr (fun k => (if_neg hne).trans (if_neg h1)) (far_inf neg e h3)
    · right
      exact ⟨hn, by omega, by omega, Ev.congr (fun k => (if_neg hne).trans (if_neg h1)) (far_no neg e h3)⟩
theorem unit_eq (n : Nat) (e : Int) (hl : blen n ≤ 128) (h0 : -100000 ≤ e) (h1 : e ≤ 2000) : float_unit.f ((blen n : Nat) : Int) e = some (ulp n e) := by
  unfold float_unit.f ulp
  rw [w64 (x := e + ((blen n : Nat) : Int)) (by omega) (by omega), w64 (by omega) (by omega)]
  congr 1
  unfold mx
  omega
theorem rqi_bound {n : Nat} {e : Int} (more : Bool) (hn : n ≠ 0) : rqi n (ulp n e - e) more ≤ 9007199254740992 ∧ (ulp n e = -1074 ∨ 4503599627370496 ≤ rqi n (ulp n e - e) more) := by
  constructor
  · exact rqi_le' more (by unfold ulp; omega)
  · by_cases h : ulp n e = -1074
    · exact Or.inl h
    · exact Or.inr (rqi_ge' more hn (by unfold ulp at *; omega))
theorem and_one (x : Nat) (h : x < 18446744073709551616) : Go.bits .and .u64 (x : Int) 1 = ((x % 2 : Nat) : Int) := by
  have := bits_mask .u64 64 (by decide) wraps_u64 1 (by decide) (x : Int) (Int.natCast_nonneg _) (Int.ofNat_lt.2 h)
  exact this
/-- The function literal of Join, where the number is not cut. -/
theorem join1_up {a b : Int} (h1 : Word a) (h2 : Word b) (d : Int) (hd : d ≤ 0) (hd2 : -1000000 ≤ d) (hs : two a b * 2 ^ (-d).toNat < 18446744073709551616) (k : Nat) :
    float_Join_1.f k d a b = some (((two a b * 2 ^ (-d).toNat : Nat) : Int), false, false, a, b) := by
  have ew : wrap64 (-d) = -d := w64 (by omega) (by omega)
  have s := wshl_eq h1 h2 (n := -d) (by clear ew; omega)
  have el : loW (two a b * 2 ^ (-d).toNat) = ((two a b * 2 ^ (-d).toNat : Nat) : Int) := by unfold loW; rw [Nat.mod_eq_of_lt hs]
  unfold float_Join_1.f
  rw [if_pos hd, ew, bind_eq s, el]
theorem join1_down {a b : Int} (h1 : Word a) (h2 : Word b) (d : Nat) (hd : d < 1000000) (hs : two a b / 2 ^ (d + 1) < 18446744073709551616) :
    Ev (fun k => float_Join_1.f k ((d + 1 : Nat) : Int) a b) (((two a b / 2 ^ (d + 1) : Nat) : Int), decide (two a b / 2 ^ d % 2 = 1), decide (two a b % 2 ^ d ≠ 0), a, b) := by
  have ew : wrap64 (((d + 1 : Nat) : Int) - 1) = (d : Int) := by rw [w64 (by omega) (by omega)]; omega
  have s := wshr_ev h1 h2 (n := (d : Int)) (by omega)
  rw [Int.toNat_natCast] at s
  have hx := two_lt h1 h2
  have hlt : two a b / 2 ^ d < 340282366920938463463374607431768211456 := Nat.lt_of_le_of_lt (Nat.div_le_self _ _) hx
  have e63 : (63 : Int).toNat = 63 := rfl
  have s2 := wshl_eq (hiW_word (two a b / 2 ^ d)) (loW_word (two a b / 2 ^ d)) (n := 63) (by decide)
  rw [two_hilo hlt, e63] at s2
  have hq : two a b / 2 ^ (d + 1) = two a b / 2 ^ d / 2 := by rw [Nat.div_div_eq_div_mul, Nat.pow_succ]
  rw [hq] at hs ⊢
  have e1 : hiW (two a b / 2 ^ d * 2 ^ 63) = ((two a b / 2 ^ d / 2 : Nat) : Int) := by
    rw [show (2 : Nat) ^ 63 = 9223372036854775808 from by decide]
    generalize two a b / 2 ^ d = z at *
    unfold hiW; omega
  have e2 : (Go.bits .and .u64 (loW (two a b / 2 ^ d)) 1 == 1) = decide (two a b / 2 ^ d % 2 = 1) := by
    generalize two a b / 2 ^ d = z at *
    unfold loW
    rw [and_one _ (Nat.mod_lt _ (by decide))]
    by_cases hz : z % 2 = 1
    · rw [decide_eq_true hz, show z % 18446744073709551616 % 2 = 1 by omega]; rfl
    · rw [decide_eq_false hz, show z % 18446744073709551616 % 2 = 0 by omega]; rfl
  unfold float_Join_1.f
  refine Ev.congr (fun k => if_neg (show ¬ ((d + 1 : Nat) : Int) ≤ 0 by omega)) ?_
  rw [ew]
  refine Ev.bind s (Ev.congr (fun k => bind_eq s2 _) ?_)
  refine Ev.congr (f := fun _ => some (((two a b / 2 ^ d / 2 : Nat) : Int), decide (two a b / 2 ^ d % 2 = 1), decide (two a b % 2 ^ d ≠ 0), a, b)) (fun k => ?_) (Ev.now _)
  rw [e1, e2]
theorem settle_ev (neg more : Bool) {a b : Int} (h1 : Word a) (h2 : Word b) (e : Int) (h0 : -9223372036854775808 ≤ e) :
    Ev (fun k => float_settle.f k neg ((blen (two a b) : Nat) : Int) e more a b) ((sgn neg (near (two a b) e more) : Nat) : Int) := by
  have hl : blen (two a b) ≤ 128 := blen_le_of_lt (Nat.lt_of_lt_of_le (two_lt h1 h2) (by decide))
  unfold float_settle.f
  rcases far_ev neg (two a b) e more hl h0 with hf | ⟨hn, he1, he2, hf⟩
  · exact Ev.bind hf (Ev.congr (fun k => if_pos rfl) (Ev.now _))
  have hu := unit_eq (two a b) e hl (by omega) he2
  obtain ⟨b1, b2⟩ := rqi_bound (n := two a b) (e := e) more hn
  have u1 : -1074 ≤ ulp (two a b) e := by unfold ulp; omega
  have u2 : ulp (two a b) e ≤ 5000 := by unfold ulp; omega
  have u3 : ulp (two a b) e ≥ e + ((blen (two a b) : Nat) : Int) - 53 := by unfold ulp; omega
  refine Ev.bind hf (Ev.congr (fun k => if_neg (by simp)) (Ev.congr (fun k => bind_eq hu _) ?_))
  rw [near_bits more hn]
  have hw : wrap64 (ulp (two a b) e - e) = ulp (two a b) e - e := w64 (by omega) (by omega)
  rw [hw]
  clear hw hu hf
  have pk := fun (m : Nat) (hm : m = rqi (two a b) (ulp (two a b) e - e) more) => pack_ev neg (rqi (two a b) (ulp (two a b) e - e) more) (ulp (two a b) e) b1 u1 (by omega) b2
  have hblen := lt_blen (two a b)
  by_cases hd : ulp (two a b) e - e ≤ 0
  · have eq : rqi (two a b) (ulp (two a b) e - e) more = two a b * 2 ^ (-(ulp (two a b) e - e)).toNat := by unfold rqi; rw [if_pos hd]
    have j := join1_up h1 h2 (ulp (two a b) e - e) hd (by omega) (by rw [← eq]; omega)
    have p := pk _ rfl
    rw [eq] at p ⊢
    exact Ev.congr (fun k => bind_eq (j k) _) (Ev.congr (fun k => if_neg (by simp)) p)
  · obtain ⟨d, hd2⟩ : ∃ d : Nat, ulp (two a b) e - e = ((d + 1 : Nat) : Int) := ⟨(ulp (two a b) e - e).toNat - 1, by omega⟩
    have eq : rqi (two a b) (ulp (two a b) e - e) more = rq (two a b) (d + 1) more := by unfold rqi; rw [if_neg hd, hd2, Int.toNat_natCast]
    have hle := le_rq (two a b) (d + 1) more
    have j := join1_down h1 h2 d (by omega) (by rw [eq] at b1; omega)
    rw [hd2]
    have p := pk _ rfl
    rw [eq] at p b1 b2
    rw [hd2] at eq
    rw [eq]
    refine Ev.bind j ?_
    have rb := rq_bits (two a b) d more
    generalize rq (two a b) (d + 1) more = R at *
    generalize two a b / 2 ^ (d + 1) = Q at *
    generalize two a b / 2 ^ d % 2 = t at *
    generalize two a b % 2 ^ d = s at *
    have plus : R = Q + 1 → IntKind.u64.wrap ((Q : Int) + 1) = (R : Int) := fun h => by rw [wu (by omega) (by omega)]; omega
    by_cases ht : t = 1
    · refine Ev.congr (fun k => if_pos (decide_eq_true ht)) ?_
      by_cases hs : s ≠ 0
      · rw [if_pos ⟨ht, Or.inl hs⟩] at rb
        refine Ev.congr (fun k => if_pos (decide_eq_true hs)) ?_
        rw [plus rb]; exact p
      · refine Ev.congr (fun k => if_neg (by rw [decide_eq_false hs]; simp)) ?_
        by_cases hm : more = true
        · rw [if_pos ⟨ht, Or.inr (Or.inl hm)⟩] at rb
          refine Ev.congr (fun k => if_pos hm) ?_
          rw [plus rb]; exact p
        · refine Ev.congr (fun k => if_neg hm) ?_
          rw [and_one Q (by omega)]
          by_cases ho : Q % 2 = 1
          · rw [if_pos ⟨ht, Or.inr (Or.inr ho)⟩] at rb
            refine Ev.congr (fun k => if_pos (show ((Q % 2 : Nat) : Int) = 1 by omega)) ?_
            rw [plus rb]; exact p
          · rw [if_neg (by rintro ⟨_, h | h | h⟩; exact hs h; exact hm h; exact ho h)] at rb
            refine Ev.congr (fun k => if_neg (show ¬ ((Q % 2 : Nat) : Int) = 1 by omega)) ?_
            have : R = Q := rb
            rw [this] at p; rw [this]; exact p
    · rw [if_neg (fun h => ht h.1)] at rb
      refine Ev.congr (fun k => if_neg (by rw [decide_eq_false ht]; simp)) ?_
      have : R = Q := rb
      rw [this] at p; rw [this]; exact p
theorem join_ev (neg more : Bool) {a b : Int} (h1 : Word a) (h2 : Word b) (e : Int) (h0 : -9223372036854775808 ≤ e) :
    Ev (fun k => float_Join.f k neg a b e more) ((sgn neg (near (two a b) e more) : Nat) : Int) := by
  unfold float_Join.f
  exact Ev.bind (wlen_ev h1 h2) (settle_ev neg more h1 h2 e h0)
end Go.Proofs.Ytbejjlecpcphoaa.Q
