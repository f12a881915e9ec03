/-
  The reference's Round gives the nearest number.
-/
import Derived.Test.YtbejjlecpcphoaaPx14
import Derived.Test.YtbejjlecpcphoaaQF4
namespace Go.Proofs.Ytbejjlecpcphoaa.Q
set_option linter.unusedVariables false
open Go.RowKit Go.Proofs.YtbejjlecpcphoaaW.PrintWords Go.Proofs.YtbejjlecpcphoaaW.PrintLast Go.Proofs.YtbejjlecpcphoaaW.PrintMore
open Go.Proofs.Ytbejjlecpcphoaa.P Go.Proofs.Ytbejjlecpcphoaa.LL Go.Proofs.Ytbejjlecpcphoaa.FM

theorem blen_val {l : List Int} (hl : Lb l) : blen (val l) ≤ 32 * l.length := blen_le_of_lt (val_lt hl)
theorem blen_limbs (n : Nat) : blen n ≤ 32 * (limbs n).length := blen_le_of_lt (by have := val_lt (lb_limbs n); rwa [val_limbs] at this)
theorem sgn_add (neg : Bool) (b : Nat) : sgn neg b = sgn neg 0 + b := by
  cases neg with
  | true => rw [sgn_true, sgn_true]; omega
  | false => rw [sgn_false, sgn_false]; omega
theorem sgn0_le (neg : Bool) : sgn neg 0 ≤ 9223372036854775808 := by
  cases neg with
  | true => rw [sgn_true]; omega
  | false => rw [sgn_false]; omega
theorem round_j4 (x9 m : Nat) (u : Int) (hx : x9 ≤ 9223372036854775808) (hm : m < 9007199254740992) (h0 : -1074 ≤ u) (hu : u < 100000) (hn : u = -1074 ∨ 4503599627370496 ≤ m) :
    Ev (fun k => tabardref3_Round.j4 k (x9 : Int) u (m : Int)) ((x9 + bitsOf m u : Nat) : Int) := by
  refine Ev.step (f := fun _ => some ((x9 + bitsOf m u : Nat) : Int)) (fun k => ?_) (Ev.now _)
  simp only [tabardref3_Round.j4]
  have e1 : wrap64 (u + 1075) = u + 1075 := w64 (by omega) (by omega)
  by_cases h : (m : Int) < 4503599627370496
  · have e : bitsOf m u = m := by rw [bitsOf_fin hm h0 (by clear e1; omega)]; clear e1; omega
    have e2 : IntKind.u64.wrap ((x9 : Int) + (m : Int)) = ((x9 + m : Nat) : Int) := by rw [wu (by clear e1; omega) (by clear e1; omega)]; rfl
    rw [if_pos h, e, e2]
  · rw [if_neg h, e1]
    by_cases h2 : u + 1075 ≥ 2047
    · have e : bitsOf m u = 9218868437227405312 := bitsOf_inf (by clear e1; omega) (by clear e1; omega)
      have e2 : IntKind.u64.wrap ((x9 : Int) + 9218868437227405312) = ((x9 + 9218868437227405312 : Nat) : Int) := by rw [wu (by clear e1; omega) (by clear e1; omega)]; rfl
      rw [if_pos h2, e, e2]
    · have e : bitsOf m u = (u + 1074).toNat * 4503599627370496 + m := bitsOf_fin hm h0 (by clear e1; omega)
      have e2 : IntKind.u64.wrap (IntKind.u64.wrap (u + 1075) * 4503599627370496) = (((u + 1075).toNat * 4503599627370496 : Nat) : Int) := by
        rw [wu (x := u + 1075) (by clear e1; omega) (by clear e1; omega), wu (by clear e1; omega) (by clear e1; omega)]; clear e1; omega
      have e3 : IntKind.u64.wrap (IntKind.u64.wrap (IntKind.u64.wrap ((x9 : Int) + (((u + 1075).toNat * 4503599627370496 : Nat) : Int)) + (m : Int)) - 4503599627370496) = ((x9 + ((u + 1074).toNat * 4503599627370496 + m) : Nat) : Int) := by
        clear e e1 e2
        rw [wu64, wu64, wu64]; omega
      rw [if_neg h2, e, e2, e3]
theorem round_j3 (x9 m : Nat) (u : Int) (hx : x9 ≤ 9223372036854775808) (hm : m ≤ 9007199254740992) (h0 : -1074 ≤ u) (hu : u < 99999) (hn : u = -1074 ∨ 4503599627370496 ≤ m) :
    Ev (fun k => tabardref3_Round.j3 k (x9 : Int) u (m : Int)) ((x9 + bitsOf m u : Nat) : Int) := by
  by_cases h : (m : Int) = 9007199254740992
  · have e : m = 9007199254740992 := by omega
    have e1 : wrap64 (u + 1) = u + 1 := w64 (by omega) (by omega)
    have j := round_j4 x9 4503599627370496 (u + 1) hx (by decide) (by clear e1; omega) (by clear e1; omega) (Or.inr (Nat.le_refl _))
    rw [e, bitsOf_top u h0]
    refine Ev.step (fun k => ?_) j
    simp only [tabardref3_Round.j3]
    rw [e] at h
    rw [if_pos h, e1]; rfl
  · refine Ev.step (fun k => ?_) (round_j4 x9 m u hx (by omega) h0 (by omega) hn)
    simp only [tabardref3_Round.j3]
    rw [if_neg h]
/-- The rounding, where the last place is chosen. -/
theorem round_j2 {n : Nat} {l : List Int} (hl : Lb l) (hv : val l = n) (hV : l.length ≤ 400) (x9 : Nat) (hx : x9 ≤ 9223372036854775808) (e : Int) (more : Bool) (hn : n ≠ 0) (he1 : -110000 ≤ e) (he2 : e ≤ 2000) :
    Ev (fun k => tabardref3_Round.j2 k l e more (x9 : Int) (ulp n e)) ((x9 + near n e more : Nat) : Int) := by
  have hbl : blen n ≤ 12800 := by have h := blen_val hl; rw [hv] at h; omega
  obtain ⟨b1, b2⟩ := rqi_bound (n := n) (e := e) more hn
  have u1 : -1074 ≤ ulp n e := by unfold ulp; omega
  have u2 : ulp n e ≤ 20000 := by unfold ulp; omega
  have u3 : ulp n e ≥ e + ((blen n : Nat) : Int) - 53 := by unfold ulp; omega
  have hp := blen_pos hn
  rw [near_bits more hn]
  have fin := round_j3 x9 (rqi n (ulp n e - e) more) (ulp n e) hx b1 u1 (by omega) b2
  by_cases hd : ulp n e - e ≤ 0
  · obtain ⟨d, hd2⟩ : ∃ d : Nat, e - ulp n e = (d : Int) := ⟨(e - ulp n e).toNat, by omega⟩
    have eq : rqi n (ulp n e - e) more = n * 2 ^ d := by
      unfold rqi; rw [if_pos hd, show (-(ulp n e - e)).toNat = d by omega]
    have w := up_evl hl hV d (by omega)
    rw [hv] at w
    have hl8 : (limbs (n * 2 ^ d)).length < 35184372088832 := by
      refine Nat.lt_of_le_of_lt (limbs_len_le (m := 2) ?_) (by decide)
      rw [← eq]; exact Nat.lt_of_le_of_lt b1 (by decide)
    have f := from_ev (lb_limbs (n * 2 ^ d)) 0 (by decide)
    rw [eq] at fin b1 ⊢
    rw [val_limbs, Nat.pow_zero, Nat.div_one, Nat.mod_eq_of_lt (by omega)] at f
    have ew : wrap64 (e - ulp n e) = (d : Int) := by rw [hd2]; exact w64 (by omega) (by omega)
    refine Ev.step (f := fun k => (tabardref3_Up.f k l (d : Int)).bind fun t207 => ((tabardref3_from.f k t207 0).bind fun t210 => (tabardref3_Round.j3 k (x9 : Int) (ulp n e) t210))) (fun k => ?_) (Ev.bind w (Ev.bind f fin))
    simp only [tabardref3_Round.j2]
    rw [if_pos (show ulp n e ≤ e by clear ew; omega), ew]
  · obtain ⟨d, hd2⟩ : ∃ d : Nat, ulp n e - e = ((d + 1 : Nat) : Int) := ⟨(ulp n e - e).toNat - 1, by omega⟩
    have eq : rqi n (ulp n e - e) more = rq n (d + 1) more := by unfold rqi; rw [if_neg hd, hd2, Int.toNat_natCast]
    have rb := rq_bits n d more
    have hle := le_rq n (d + 1) more
    have f := from_ev hl (d + 1) (by omega)
    have b := bit_eq hl d (by omega)
    have lw := low_ev hl (by omega) d (by omega)
    rw [eq] at fin b1 ⊢
    rw [hv, Nat.mod_eq_of_lt (by omega)] at f
    rw [hv, Nat.testBit_eq_decide_div_mod_eq] at b
    rw [hv] at lw
    have ew : wrap64 (ulp n e - e) = ((d + 1 : Nat) : Int) := by rw [hd2]; exact w64 (by omega) (by omega)
    have ew2 : wrap64 (((d + 1 : Nat) : Int) - 1) = (d : Int) := by rw [w64 (by clear ew; omega) (by clear ew; omega)]; clear ew; omega
    refine Ev.step (f := fun k => (tabardref3_from.f k l ((d + 1 : Nat) : Int)).bind fun t211 => ((tabardref1_Bit.f l (d : Int)).bind fun t212 => ((tabardref3_low.f k l (d : Int)).bind fun t213 => (if t213 = true then (if t212 = true then (tabardref3_Round.j3 k (x9 : Int) (ulp n e) (IntKind.u64.wrap (t211 + 1))) else (tabardref3_Round.j3 k (x9 : Int) (ulp n e) t211)) else (if t212 = true then (if more = true then (tabardref3_Round.j3 k (x9 : Int) (ulp n e) (IntKind.u64.wrap (t211 + 1))) else (if (Int.tmod t211 2) = 1 then (tabardref3_Round.j3 k (x9 : Int) (ulp n e) (IntKind.u64.wrap (t211 + 1))) else (tabardref3_Round.j3 k (x9 : Int) (ulp n e) t211))) else (tabardref3_Round.j3 k (x9 : Int) (ulp n e) t211)))))) (fun k => ?_) (Ev.bind f (Ev.congr (fun k => bind_eq b _) (Ev.bind lw ?_)))
    · simp only [tabardref3_Round.j2]
      rw [if_neg (show ¬ ulp n e ≤ e by clear ew ew2; omega), ew, ew2]
    clear ew ew2 f b lw
    generalize rq n (d + 1) more = R at *
    generalize n / 2 ^ (d + 1) = Q at *
    generalize n / 2 ^ d % 2 = t at *
    generalize n % 2 ^ d = s at *
    have plus : R = Q + 1 → IntKind.u64.wrap ((Q : Int) + 1) = (R : Int) := fun h => by rw [wu (by omega) (by omega)]; omega
    by_cases hs : s ≠ 0
    · refine Ev.congr (fun k => if_pos (decide_eq_true hs)) ?_
      by_cases ht : t = 1
      · rw [if_pos ⟨ht, Or.inl hs⟩] at rb
        refine Ev.congr (fun k => if_pos (decide_eq_true ht)) ?_
        rw [plus rb]; exact fin
      · rw [if_neg (fun h => ht h.1)] at rb
        refine Ev.congr (fun k => if_neg (by rw [decide_eq_false ht]; simp)) ?_
        have : R = Q := rb
        rw [this] at fin ⊢; exact fin
    · refine Ev.congr (fun k => if_neg (by rw [decide_eq_false hs]; simp)) ?_
      by_cases ht : t = 1
      · refine Ev.congr (fun k => if_pos (decide_eq_true ht)) ?_
        by_cases hm : more = true
        · rw [if_pos ⟨ht, Or.inr (Or.inl hm)⟩] at rb
          refine Ev.congr (fun k => if_pos hm) ?_
          rw [plus rb]; exact fin
        · refine Ev.congr (fun k => if_neg hm) ?_
          have et : Int.tmod (Q : Int) 2 = ((Q % 2 : Nat) : Int) := by rw [Int.tmod_eq_emod_of_nonneg (Int.natCast_nonneg _)]; rfl
          rw [et]
          by_cases ho : Q % 2 = 1
          · rw [if_pos ⟨ht, Or.inr (Or.inr ho)⟩] at rb
            refine Ev.congr (fun k => if_pos (show ((Q % 2 : Nat) : Int) = 1 by clear plus et; omega)) ?_
            rw [plus rb]; exact fin
          · rw [if_neg (by rintro ⟨_, h | h | h⟩; exact hs h; exact hm h; exact ho h)] at rb
            refine Ev.congr (fun k => if_neg (show ¬ ((Q % 2 : Nat) : Int) = 1 by clear plus et; omega)) ?_
            have : R = Q := rb
            rw [this] at fin ⊢; exact fin
      · rw [if_neg (fun h => ht h.1)] at rb
        refine Ev.congr (fun k => if_neg (by rw [decide_eq_false ht]; simp)) ?_
        have : R = Q := rb
        rw [this] at fin ⊢; exact fin
theorem round_j1 {n : Nat} {l : List Int} (hl : Lb l) (hv : val l = n) (hV : l.length ≤ 400) (x9 : Nat) (hx : x9 ≤ 9223372036854775808) (e : Int) (more : Bool) (hn : n ≠ 0) (he1 : -110000 ≤ e) (he : e ≤ 9223372036854775807) :
    Ev (fun k => tabardref3_Round.j1 k l e more (x9 : Int) ((blen n : Nat) : Int) false) ((x9 + near n e more : Nat) : Int) := by
  have hbl : blen n ≤ 12800 := by have h := blen_val hl; rw [hv] at h; omega
  by_cases h : e > 2000
  · rw [near_huge more hn h]
    have e2 : IntKind.u64.wrap ((x9 : Int) + 9218868437227405312) = ((x9 + 9218868437227405312 : Nat) : Int) := by rw [wu (by omega) (by omega)]; rfl
    refine Ev.step (f := fun _ => some ((x9 + 9218868437227405312 : Nat) : Int)) (fun k => ?_) (Ev.now _)
    simp only [tabardref3_Round.j1]
    rw [if_neg (by simp), if_pos h, e2]
  · have j := round_j2 hl hv hV x9 hx e more hn he1 (by omega)
    have ew : wrap64 (wrap64 (e + ((blen n : Nat) : Int)) - 53) = e + ((blen n : Nat) : Int) - 53 := by rw [w64 (x := e + ((blen n : Nat) : Int)) (by omega) (by omega), w64 (by omega) (by omega)]
    refine Ev.step (fun k => ?_) j
    simp only [tabardref3_Round.j1]
    rw [if_neg (by simp), if_neg h, ew]
    by_cases h2 : e + ((blen n : Nat) : Int) - 53 < -1074
    · have : ulp n e = -1074 := by unfold ulp; clear ew; omega
      rw [if_pos h2, this]
    · have : ulp n e = e + ((blen n : Nat) : Int) - 53 := by unfold ulp; clear ew; omega
      rw [if_neg h2, this]
theorem round_zero {l : List Int} (x9 t e : Int) (more : Bool) : Ev (fun k => tabardref3_Round.j1 k l e more x9 t true) x9 := by
  refine Ev.step (f := fun _ => some x9) (fun k => ?_) (Ev.now _)
  simp only [tabardref3_Round.j1]
  rw [if_pos trivial]
theorem round_j0 {n : Nat} {l : List Int} (hl : Lb l) (hv : val l = n) (hV : l.length ≤ 400) (x9 : Nat) (hx : x9 ≤ 9223372036854775808) (e : Int) (more : Bool) (h0 : -9223372036854775808 ≤ e) (he : e ≤ 9223372036854775807) :
    Ev (fun k => tabardref3_Round.j0 k l e more (x9 : Int)) ((x9 + near n e more : Nat) : Int) := by
  have hbl : blen n ≤ 12800 := by have h := blen_val hl; rw [hv] at h; omega
  have l1 := len_ev hl (by omega)
  rw [hv] at l1
  refine Ev.step (f := fun k => (tabardref1_Len.f k l).bind fun t206 => (if t206 = 0 then (tabardref3_Round.j1 k l e more (x9 : Int) t206 true) else (if e < (-100000) then (tabardref3_Round.j1 k l e more (x9 : Int) t206 (decide ((wrap64 (e + t206)) < (-2000)))) else (tabardref3_Round.j1 k l e more (x9 : Int) t206 false)))) (fun k => ?_) (Ev.bind l1 ?_)
  · simp only [tabardref3_Round.j0]
  by_cases hn : n = 0
  · have e1 : near n e more = 0 := by unfold near; rw [if_pos hn]
    rw [e1, Nat.add_zero]
    exact Ev.congr (fun k => if_pos (by rw [hn, blen_zero]; rfl)) (round_zero _ _ _ _)
  have hp := blen_pos hn
  refine Ev.congr (fun k => if_neg (show ¬ ((blen n : Nat) : Int) = 0 by omega)) ?_
  by_cases h1 : e < -100000
  · have ew : wrap64 (e + ((blen n : Nat) : Int)) = e + ((blen n : Nat) : Int) := w64 (by omega) (by omega)
    have hlt : e + ((blen n : Nat) : Int) < -2000 := by clear ew; omega
    refine Ev.congr (fun k => if_pos h1) ?_
    rw [ew, decide_eq_true hlt, near_tiny more (by clear ew; omega), Nat.add_zero]
    exact round_zero _ _ _ _
  · exact Ev.congr (fun k => if_neg h1) (round_j1 hl hv hV x9 hx e more hn (by omega) he)
theorem round_evl (neg more : Bool) {n : Nat} {l : List Int} (hl : Lb l) (hv : val l = n) (hV : l.length ≤ 400) (e : Int) (h0 : -9223372036854775808 ≤ e) (he : e ≤ 9223372036854775807) :
    Ev (fun k => tabardref3_Round.f k neg l e more) ((sgn neg (near n e more) : Nat) : Int) := by
  unfold tabardref3_Round.f
  cases neg with
  | true =>
    have j := round_j0 hl hv hV 9223372036854775808 (Nat.le_refl _) e more h0 he
    rw [sgn_true, Nat.add_comm]
    exact Ev.congr (fun k => if_pos rfl) j
  | false =>
    have j := round_j0 hl hv hV 0 (by decide) e more h0 he
    rw [Nat.zero_add] at j
    rw [sgn_false]
    exact Ev.congr (fun k => if_neg (by simp)) j
theorem round_ev (neg more : Bool) {n : Nat} (hV : (limbs n).length ≤ 256) (e : Int) (h0 : -9223372036854775808 ≤ e) (he : e ≤ 9223372036854775807) :
    Ev (fun k => tabardref3_Round.f k neg (limbs n) e more) ((sgn neg (near n e more) : Nat) : Int) := round_evl neg more (lb_limbs n) (val_limbs n) (by omega) e h0 he
end Go.Proofs.Ytbejjlecpcphoaa.Q
