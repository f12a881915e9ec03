/-
  Round of package float gives the nearest number.
-/
import Derived.Test.YtbejjlecpcphoaaPx25
import Derived.Test.YtbejjlecpcphoaaPx24
import Derived.Test.YtbejjlecpcphoaaPx23
import Derived.Test.YtbejjlecpcphoaaQ1
import Derived.Test.YtbejjlecpcphoaaQF3
namespace Go.Proofs.Ytbejjlecpcphoaa.Q
set_option linter.unusedVariables false
open Go.RowKit Go.Proofs.YtbejjlecpcphoaaW.PrintWords Go.Proofs.YtbejjlecpcphoaaW.PrintLast Go.Proofs.YtbejjlecpcphoaaW.PrintMore
open Go.Proofs.Ytbejjlecpcphoaa.P Go.Proofs.Ytbejjlecpcphoaa.LL Go.Proofs.Ytbejjlecpcphoaa.FM

theorem right_l0 {l : List Int} (hl : Lb l) (hlen : l.length < 35184372088832) (i : Nat) (hi : i ≤ l.length) (h0 : val (l.drop i) = 0) :
    ∃ m : Nat, m ≤ l.length ∧ l.take m = limbs (val l) ∧ Ev (fun k => nat_right.l0 k l (i : Int)) (m : Int) := by
  induction i with
  | zero =>
    have hv : val l = 0 := by simpa using h0
    refine ⟨0, Nat.zero_le _, by rw [hv, limbs_zero]; simp, Ev.step (f := fun _ => some ((0 : Nat) : Int)) (fun k => ?_) (Ev.now _)⟩
    simp only [nat_right.l0]
    rw [if_neg (by omega)]
  | succ i ih =>
    have hlt : i < l.length := by omega
    have e1 : wrap64 (((i + 1 : Nat) : Int) - 1) = (i : Int) := by rw [w64 (by omega) (by omega)]; omega
    by_cases hz : rd l (i : Int) = 0
    · have hd : val (l.drop i) = 0 := by
        have : l.drop i = l[i] :: l.drop (i + 1) := List.drop_eq_getElem_cons hlt
        have hz' : l[i] = 0 := by simpa [rd, List.getD_eq_getElem?_getD, List.getElem?_eq_getElem hlt] using hz
        rw [this, val, h0, hz']; rfl
      obtain ⟨m, h1, h2, h3⟩ := ih (by omega) hd
      refine ⟨m, h1, h2, Ev.step (fun k => ?_) h3⟩
      simp only [nat_right.l0]
      rw [if_pos (show ((i + 1 : Nat) : Int) > 0 by omega), e1, if_pos (show (0 : Int) ≤ (i : Int) by omega), if_pos (show (i : Int) < (l.length : Int) by omega), if_pos hz]
    · have hv : val l = val (l.take (i + 1)) := by
        have := val_split l (i + 1) hi
        rw [h0] at this; simpa using this
      have hlim : limbs (val l) = l.take (i + 1) := by
        rw [hv]
        apply limbs_of (hl.take _)
        right
        rw [List.getLastD_eq_getLast?, List.getLast?_eq_getElem?]
        have hl2 : (l.take (i + 1)).length = i + 1 := by simp; omega
        rw [hl2, Nat.add_sub_cancel, List.getElem?_take_of_lt (by omega)]
        intro h; apply hz
        unfold rd; rw [Int.toNat_natCast, List.getD_eq_getElem?_getD]; exact h
      refine ⟨i + 1, hi, hlim.symm, Ev.step (f := fun _ => some ((i + 1 : Nat) : Int)) (fun k => ?_) (Ev.now _)⟩
      simp only [nat_right.l0]
      rw [if_pos (show ((i + 1 : Nat) : Int) > 0 by omega), e1, if_pos (show (0 : Int) ≤ (i : Int) by omega), if_pos (show (i : Int) < (l.length : Int) by omega), if_neg hz]
theorem ntrim_ev {l : List Int} (hl : Lb l) (hlen : l.length < 35184372088832) : Ev (fun k => nat_Trim.f k l) (limbs (val l)) := by
  obtain ⟨m, h1, h2, h3⟩ := right_l0 hl hlen l.length (Nat.le_refl _) (by simp [val])
  unfold nat_Trim.f nat_right.f
  refine Ev.bind h3 ?_
  rw [← h2]
  refine Ev.congr (fun k => ?_) (Ev.now _)
  rw [if_pos (Int.natCast_nonneg m), if_pos (show (m : Int) ≤ (l.length : Int) by omega), Int.toNat_natCast, if_pos (by omega)]
theorem round_l1 (neg more : Bool) {l : List Int} (hl : Lb l) (h4 : l.length ≤ 4) (e : Int) (h0 : -9223372036854775808 ≤ e) (d : Nat) : ∀ (i : Nat) (x y : Int), i + d = l.length → Word x → Word y → two x y = val l / 2 ^ (32 * d) →
    Ev (fun k => float_Round.l1 k neg l e more (l.length : Int) (i : Int) x y) ((sgn neg (near (val l) e more) : Nat) : Int) := by
  induction d with
  | zero =>
    intro i x y hi hx hy h
    have j := join_ev neg more hx hy e h0
    rw [h, Nat.mul_zero, Nat.pow_zero, Nat.div_one] at j
    refine Ev.step (f := fun k => (float_Join.f k neg x y e more).bind fun t317 => (some t317)) (fun k => ?_) (Ev.bind j (Ev.now _))
    simp only [float_Round.l1]
    rw [if_neg (by omega)]
  | succ d ih =>
    intro i x y hi hx hy h
    have s := wshl_eq hx hy (n := 32) (by decide)
    have e1 : wrap64 (wrap64 ((l.length : Int) - 1) - (i : Int)) = (d : Int) := by rw [w64 (x := (l.length : Int) - 1) (by omega) (by omega), w64 (by omega) (by omega)]; omega
    have e2 : wrap64 ((i : Int) + 1) = ((i + 1 : Nat) : Int) := by rw [w64 (by omega) (by omega)]; rfl
    have hr := rd_val hl d
    have hvl := val_lt hl
    have hv4 : val l < 340282366920938463463374607431768211456 := Nat.lt_of_lt_of_le hvl (Nat.le_trans (Nat.pow_le_pow_right (by decide) (show 32 * l.length ≤ 128 by omega)) (by decide))
    have hq : val l / 2 ^ (32 * (d + 1)) = val l / 2 ^ (32 * d) / 4294967296 := by
      rw [Nat.div_div_eq_div_mul, pow32, Nat.mul_comm 4294967296]
    have hz : val l / 2 ^ (32 * d) < 340282366920938463463374607431768211456 := Nat.lt_of_le_of_lt (Nat.div_le_self _ _) hv4
    have hst : ∀ k, float_Round.l1 (k + 1) neg l e more (l.length : Int) (i : Int) x y = float_Round.l1 k neg l e more (l.length : Int) ((i + 1 : Nat) : Int) (hiW (val l / 2 ^ (32 * d))) (loW (val l / 2 ^ (32 * d))) := by
      intro k
      simp only [float_Round.l1]
      rw [if_pos (show (i : Int) < (l.length : Int) by clear e1 e2; omega), bind_eq s, e1, if_pos (show (0 : Int) ≤ (d : Int) by clear e1 e2; omega), if_pos (show (d : Int) < (l.length : Int) by clear e1 e2; omega), e2, hr, h, hq]
      clear s hr h hq ih e1 e2
      generalize val l / 2 ^ (32 * d) = z at *
      have e32 : (32 : Int).toNat = 32 := rfl
      rw [e32, show (2 : Nat) ^ 32 = 4294967296 from by decide]
      have a1 : hiW (z / 4294967296 * 4294967296) = hiW z := by unfold hiW; omega
      have a2 : loW (z / 4294967296 * 4294967296) = ((z / 4294967296 * 4294967296 % 18446744073709551616 : Nat) : Int) := by unfold loW; rfl
      have a3 : IntKind.u64.wrap ((z % 4294967296 : Nat) : Int) = ((z % 4294967296 : Nat) : Int) := wu (by omega) (by omega)
      have a4 := or_high (z % 4294967296) (z / 4294967296 * 4294967296 % 18446744073709551616) 32 (by rw [show (2 : Nat) ^ 32 = 4294967296 from by decide]; omega) (by rw [show (2 : Nat) ^ 32 = 4294967296 from by decide]; omega) (by omega) (by omega)
      have a5 : ((z % 4294967296 + z / 4294967296 * 4294967296 % 18446744073709551616 : Nat) : Int) = loW z := by clear a3 a4; unfold loW; omega
      rw [a1, a2, a3, a4, a5]
    refine Ev.step hst (ih (i + 1) _ _ (by clear e1 e2; omega) (hiW_word _) (loW_word _) (two_hilo hz))
theorem round_j1' (neg more : Bool) {l : List Int} (hl : Lb l) (h4 : l.length ≤ 4) (e : Int) (h0 : -9223372036854775808 ≤ e) :
    Ev (fun k => float_Round.j1 k neg l e more) ((sgn neg (near (val l) e more) : Nat) : Int) := by
  have hz : val l / 2 ^ (32 * l.length) = 0 := Nat.div_eq_of_lt (val_lt hl)
  have t0 : two 0 0 = 0 := by unfold two; rfl
  have w0 : Word 0 := ⟨by omega, by omega⟩
  refine Ev.step (fun k => ?_) (round_l1 neg more hl h4 e h0 l.length 0 0 0 (by omega) w0 w0 (by rw [hz, t0]))
  simp only [float_Round.j1]; rfl
theorem take_more {y : List Int} (hy : Lb y) (i : Nat) (hi : i < y.length) : val (y.take (i + 1)) ≠ 0 ↔ (val (y.take i) ≠ 0 ∨ rd y (i : Int) > 0) := by
  have e : y.take (i + 1) = y.take i ++ [y[i]] := by rw [List.take_add_one, List.getElem?_eq_getElem hi]; rfl
  have er : rd y (i : Int) = y[i] := by unfold rd; rw [Int.toNat_natCast, List.getD_eq_getElem?_getD, List.getElem?_eq_getElem hi]; rfl
  have hb := hy y[i] (List.getElem_mem hi)
  have hp := Nat.two_pow_pos (32 * i)
  have ev1 : val [y[i]] = y[i].toNat := by simp [val]
  have hlen : (y.take i).length = i := by rw [List.length_take]; omega
  rw [e, val_append, hlen, ev1, er]
  generalize val (y.take i) = A at *
  generalize y[i] = b at *
  generalize 2 ^ (32 * i) = p at *
  by_cases hz : b.toNat = 0
  · rw [hz]; omega
  · have : 0 < p * b.toNat := Nat.mul_pos hp (by omega)
    omega
theorem round_l0 (neg m0 : Bool) (t : List Int) (e c : Int) {y : List Int} (hy : Lb y) (hlen : y.length < 100000) {R : Int}
    (H : ∀ m, m = (m0 || decide (val y ≠ 0)) → Ev (fun k => if e < 4611686018427387904 then (if 0 ≤ c then (if c ≤ (t.length : Int) then (float_Round.j1 k neg (t.drop (c : Int).toNat) (wrap64 (e + (wrap64 (32 * c)))) m) else (none)) else (none)) else (if 0 ≤ c then (if c ≤ (t.length : Int) then (float_Round.j1 k neg (t.drop (c : Int).toNat) e m) else (none)) else (none))) R) (d : Nat) :
    ∀ (i : Nat) (m : Bool), i + d = y.length → m = (m0 || decide (val (y.take i) ≠ 0)) → Ev (fun k => float_Round.l0 k neg t e m c y (y.length : Int) (i : Int)) R := by
  induction d with
  | zero =>
    intro i m hi hm
    have : y.take i = y := List.take_of_length_le (by omega)
    rw [this] at hm
    refine Ev.step (fun k => ?_) (H m hm)
    simp only [float_Round.l0]
    rw [if_neg (by omega)]
  | succ d ih =>
    intro i m hi hm
    have e2 : wrap64 ((i : Int) + 1) = ((i + 1 : Nat) : Int) := by rw [w64 (by omega) (by omega)]; rfl
    have tm := take_more hy i (by clear e2; omega)
    have f1 : (i : Int) < (y.length : Int) := by clear e2; omega
    have f2 : (0 : Int) ≤ (i : Int) := Int.natCast_nonneg i
    by_cases hmt : m = true
    · have hn : m = (m0 || decide (val (y.take (i + 1)) ≠ 0)) := by
        rw [hmt] at hm ⊢
        rcases Bool.or_eq_true _ _ ▸ hm.symm with h | h
        · rw [h]; rfl
        · have := tm.2 (Or.inl (of_decide_eq_true h)); rw [decide_eq_true this]; simp
      refine Ev.step (fun k => ?_) (ih (i + 1) m (by clear e2; omega) hn)
      simp only [float_Round.l0]
      rw [if_pos f1, if_pos f2, if_pos f1, if_pos hmt, e2, hmt]
    · have hf : m = false := by simpa using hmt
      rw [hf] at hm
      have h3 : m0 = false ∧ ¬ val (y.take i) ≠ 0 := by
        have := hm.symm
        simpa [Bool.or_eq_false_iff] using this
      have hn : decide (rd y (i : Int) > 0) = (m0 || decide (val (y.take (i + 1)) ≠ 0)) := by
        rw [h3.1, Bool.false_or]
        exact decide_eq_decide.2 ⟨fun h => tm.2 (Or.inr h), fun h => (tm.1 h).resolve_left h3.2⟩
      refine Ev.step (fun k => ?_) (ih (i + 1) _ (by clear e2; omega) hn)
      simp only [float_Round.l0]
      rw [if_pos f1, if_pos f2, if_pos f1, if_neg hmt, e2]
/-- What is cut off a long number counts as a little more. -/
theorem rq_scale_more (n i j : Nat) (more : Bool) : rq (n * 2 ^ j) (i + 1 + j) more = rq n (i + 1) more := by
  unfold rq
  have e1 : i + 1 + j - 1 = i + j := by omega
  rw [e1]
  have hp := Nat.two_pow_pos j
  have hd : n * 2 ^ j / 2 ^ (i + 1 + j) = n / 2 ^ (i + 1) := by
    rw [Nat.pow_add 2 (i+1) j, Nat.mul_div_mul_right _ _ hp]
  have hm : n * 2 ^ j % 2 ^ (i + 1 + j) = (n % 2 ^ (i + 1)) * 2 ^ j := by
    rw [Nat.pow_add 2 (i+1) j, Nat.mul_mod_mul_right]
  rw [hd, hm, Nat.pow_add 2 i j, Nat.add_sub_cancel]
  simp only [Nat.mul_lt_mul_right hp, Nat.mul_right_cancel_iff hp]
theorem near_scale_more {n : Nat} (e : Int) {j : Nat} (more : Bool) (hn : 54 ≤ blen n) : near (n * 2 ^ j) (e - j) more = near n e more := by
  have h1 : n ≠ 0 := by rintro rfl; simp [blen] at hn
  have hp := Nat.two_pow_pos j
  have h2 : n * 2 ^ j ≠ 0 := Nat.mul_ne_zero h1 (by omega)
  unfold near
  have hu : ulp (n * 2 ^ j) (e - j) = ulp n e := by
    have := ulp_scale (r := 0) e h1 hp; rw [Nat.add_zero] at this; exact this
  rw [if_neg h1, if_neg h2, hu]
  have h3 : e + 1 ≤ ulp n e := by unfold ulp; omega
  have : rqi (n * 2 ^ j) (ulp n e - (e - j)) more = rqi n (ulp n e - e) more := by
    obtain ⟨k, hk⟩ : ∃ k : Nat, ulp n e - e = (k : Int) + 1 := ⟨(ulp n e - e - 1).toNat, by omega⟩
    have h3 : ulp n e - (e - j) = ((k + 1 + j : Nat) : Int) := by omega
    have h4 : ulp n e - e = ((k + 1 : Nat) : Int) := by omega
    rw [h3, h4]
    unfold rqi
    rw [if_neg (by omega), if_neg (by omega), Int.toNat_natCast, Int.toNat_natCast]
    exact rq_scale_more n k j more
  rw [this]
theorem near_cut (n j : Nat) (e : Int) (more : Bool) (hn : 54 ≤ blen (n / 2 ^ j)) : near n e more = near (n / 2 ^ j) (e + j) (more || decide (n % 2 ^ j ≠ 0)) := by
  have hd := Nat.div_add_mod n (2 ^ j)
  have hp := Nat.two_pow_pos j
  have ee : e = e + j - j := by omega
  by_cases h : n % 2 ^ j = 0
  · rw [decide_eq_false (show ¬ n % 2 ^ j ≠ 0 from fun hh => hh h), Bool.or_false]
    rw [h, Nat.add_zero, Nat.mul_comm] at hd
    have s := near_scale_more (e + j) more hn (j := j)
    rw [hd, ← ee] at s
    exact s
  · rw [decide_eq_true h, Bool.or_true]
    have s := near_sticky (n := n / 2 ^ j) (e + j) more hn (r := n % 2 ^ j) (by omega) (Nat.mod_lt _ hp)
    rw [Nat.mul_comm, hd, ← ee] at s
    exact s
theorem fround_ev (neg more : Bool) {l : List Int} (hl : Lb l) (hlen : l.length ≤ 1000) (e : Int) (h0 : -9223372036854775808 ≤ e) (h1 : e < 9223372036854775808) :
    Ev (fun k => float_Round.f k neg l e more) ((sgn neg (near (val l) e more) : Nat) : Int) := by
  have t := ntrim_ev hl (by omega)
  have hb := lb_limbs (val l)
  have hv := val_limbs (val l)
  have hlen2 : (limbs (val l)).length ≤ 1000 := Nat.le_trans (limbs_len_le (val_lt hl)) hlen
  have hlast : ∀ m, (limbs (val l)).length = m + 1 → 2 ^ (32 * m) ≤ val l := by
    intro m hm
    rcases Nat.lt_or_ge (val l) (2 ^ (32 * m)) with h | h
    · have := limbs_len_le h; omega
    · exact h
  unfold float_Round.f
  refine Ev.bind t ?_
  generalize limbs (val l) = y at *
  have ew : wrap64 ((y.length : Int) - 4) = (y.length : Int) - 4 := w64 (by omega) (by omega)
  rw [ew]
  clear ew
  by_cases h4 : y.length ≤ 4
  · have j := round_j1' neg more hb h4 e h0
    rw [hv] at j
    exact Ev.congr (fun k => if_neg (by omega)) j
  obtain ⟨c, hc⟩ : ∃ c : Nat, y.length = c + 1 + 4 := ⟨y.length - 5, by omega⟩
  have hcI : (y.length : Int) - 4 = ((c + 1 : Nat) : Int) := by omega
  rw [hcI]
  have hbig := hlast (c + 4) (by omega)
  have hyl : (y.take (c + 1)).length = c + 1 := by rw [List.length_take]; omega
  have hq : val l / 2 ^ (32 * (c + 1)) ≠ 0 ∧ 54 ≤ blen (val l / 2 ^ (32 * (c + 1))) := by
    have h5 : 2 ^ 96 ≤ val l / 2 ^ (32 * (c + 1)) := by
      apply (Nat.le_div_iff_mul_le (Nat.two_pow_pos _)).2
      rw [← Nat.pow_add, show 96 + 32 * (c + 1) = 32 * (c + 4) by omega]; exact hbig
    refine ⟨fun hz => ?_, Nat.le_trans (show 54 ≤ 97 by decide) (lt_blen_of_le h5)⟩
    rw [hz] at h5; exact absurd h5 (by decide)
  have hne : val l ≠ 0 := by
    intro hz; rw [hz, Nat.zero_div] at hq; exact hq.1 rfl
  have hdl : (y.drop (c + 1)).length ≤ 4 := by rw [List.length_drop]; omega
  have hvd : val (y.drop (c + 1)) = val l / 2 ^ (32 * (c + 1)) := by rw [val_drop hb, hv]
  have hvt : val (y.take (c + 1)) = val l % 2 ^ (32 * (c + 1)) := by rw [val_take hb, hv]
  have f1 : (0 : Int) ≤ ((c + 1 : Nat) : Int) := Int.natCast_nonneg _
  have f2 : ((c + 1 : Nat) : Int) ≤ (y.length : Int) := by omega
  refine Ev.congr (fun k => (if_pos (show ((c + 1 : Nat) : Int) > 0 by omega)).trans ((if_pos f1).trans (if_pos f2))) ?_
  rw [Int.toNat_natCast]
  refine Ev.congr (fun k => bind_eq rfl _) ?_
  refine round_l0 neg more y e ((c + 1 : Nat) : Int) (hb.take _) (by omega) (fun m hm => ?_) (c + 1) 0 more (by omega) (by rw [List.take_zero]; simp [val])
  rw [hvt] at hm
  rw [Int.toNat_natCast]
  by_cases he : e < 4611686018427387904
  · have ew : wrap64 (e + wrap64 (32 * ((c + 1 : Nat) : Int))) = e + ((32 * (c + 1) : Nat) : Int) := by
      rw [w64 (x := 32 * ((c + 1 : Nat) : Int)) (by omega) (by omega), w64 (by omega) (by omega)]; omega
    have j := round_j1' neg m (hb.drop (c + 1)) hdl (e + ((32 * (c + 1) : Nat) : Int)) (by clear ew; omega)
    rw [hvd, hm, ← near_cut (val l) (32 * (c + 1)) e more hq.2, ← hm] at j
    refine Ev.congr (fun k => (if_pos he).trans ((if_pos f1).trans (if_pos f2))) ?_
    rw [ew]; exact j
  · have j := round_j1' neg m (hb.drop (c + 1)) hdl e h0
    rw [hvd, near_huge (e := e) m hq.1 (by omega), ← near_huge (e := e) more hne (by omega)] at j
    exact Ev.congr (fun k => (if_neg he).trans ((if_pos f1).trans (if_pos f2))) j
end Go.Proofs.Ytbejjlecpcphoaa.Q
