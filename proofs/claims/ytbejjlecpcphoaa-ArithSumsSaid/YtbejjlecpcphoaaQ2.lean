/-
  The reference's functions on naturals: Cmp, Bit, Len, Twice, Part.
-/
import Derived.Test.YtbejjlecpcphoaaPx33
import Derived.Test.YtbejjlecpcphoaaPx11
import Derived.Test.YtbejjlecpcphoaaPx12
import Derived.Test.YtbejjlecpcphoaaQ1
namespace Go.Proofs.Ytbejjlecpcphoaa.Q
set_option linter.unusedVariables false
set_option linter.unusedSimpArgs false
open Go.RowKit Go.Proofs.YtbejjlecpcphoaaW.PrintWords Go.Proofs.YtbejjlecpcphoaaW.PrintLast Go.Proofs.YtbejjlecpcphoaaW.PrintMore
open Go.Proofs.Ytbejjlecpcphoaa.P Go.Proofs.Ytbejjlecpcphoaa.LL Go.Proofs.Ytbejjlecpcphoaa.FM

theorem top_cmp {v u P x y : Nat} (hx : v / P = x) (hy : u / P = y) (hP : 0 < P) (h : x < y) : v < u := by
  have h1 := Nat.lt_mul_div_succ v hP
  have h2 := Nat.mul_div_le u P
  rw [hx] at h1; rw [hy] at h2
  exact Nat.lt_of_lt_of_le h1 (Nat.le_trans (Nat.mul_le_mul_left P h) h2)
theorem div_step (v i : Nat) : v / 2 ^ (32 * i) = v / 2 ^ (32 * i) % 4294967296 + 4294967296 * (v / 2 ^ (32 * (i + 1))) := by
  rw [pow32, Nat.mul_comm 4294967296 (2 ^ (32 * i)), ← Nat.div_div_eq_div_mul]; omega

theorem cmp_l0 {a b : List Int} (ha : Lb a) (hb : Lb b) (hlen : a.length = b.length) (hbig : a.length < 1000000) (i : Nat) : i ≤ a.length →
    val a / 2 ^ (32 * i) = val b / 2 ^ (32 * i) → Ev (fun k => tabardref1_Cmp.l0 k a b ((i : Int) - 1)) (cmpN (val a) (val b)) := by
  induction i with
  | zero =>
    intro _ h
    refine Ev.step (f := fun _ => some 0) (fun k => ?_) ?_
    · simp only [tabardref1_Cmp.l0]; rw [if_neg (by omega)]
    · have : val a = val b := by simpa using h
      have e : cmpN (val a) (val b) = 0 := by unfold cmpN; rw [if_neg (by omega), if_pos this]
      rw [e]; exact Ev.now _
  | succ i ih =>
    intro hi h
    have da := div_step (val a) i
    have db := div_step (val b) i
    rw [h] at da
    have ra := rd_val ha i
    have rb := rd_val hb i
    have e1 : (((i + 1 : Nat) : Int) - 1) = (i : Int) := by omega
    have e2 : wrap64 ((i : Int) - 1) = (i : Int) - 1 := w64 (by omega) (by omega)
    have hx : val a / 2 ^ (32 * i) % 4294967296 < 4294967296 := Nat.mod_lt _ (by omega)
    have hy : val b / 2 ^ (32 * i) % 4294967296 < 4294967296 := Nat.mod_lt _ (by omega)
    have hr : ∀ k, tabardref1_Cmp.l0 (k + 1) a b (((i + 1 : Nat) : Int) - 1) = if val a / 2 ^ (32 * i) % 4294967296 < val b / 2 ^ (32 * i) % 4294967296 then some (-1) else if val a / 2 ^ (32 * i) % 4294967296 > val b / 2 ^ (32 * i) % 4294967296 then some 1 else tabardref1_Cmp.l0 k a b ((i : Int) - 1) := by
      intro k
      rw [e1]
      simp only [tabardref1_Cmp.l0]
      rw [if_pos (show (i : Int) ≥ 0 by omega), if_pos (show (0 : Int) ≤ (i : Int) by omega), if_pos (show (i : Int) < (a.length : Int) by omega), if_pos (show (i : Int) < (b.length : Int) by omega), ra, rb, e2]
      simp only [Int.ofNat_lt, gt_iff_lt]
    have hP : 0 < 2 ^ (32 * i) := Nat.two_pow_pos _
    by_cases h1 : val a / 2 ^ (32 * i) % 4294967296 < val b / 2 ^ (32 * i) % 4294967296
    · have hlt : val a < val b := top_cmp rfl rfl hP (by omega)
      refine Ev.step (f := fun _ => some (-1)) (fun k => (hr k).trans (if_pos h1)) ?_
      have e : cmpN (val a) (val b) = -1 := by unfold cmpN; rw [if_pos hlt]
      rw [e]; exact Ev.now _
    · by_cases h2 : val a / 2 ^ (32 * i) % 4294967296 > val b / 2 ^ (32 * i) % 4294967296
      · have hlt : val b < val a := top_cmp rfl rfl hP (by omega)
        refine Ev.step (f := fun _ => some 1) (fun k => (hr k).trans ((if_neg h1).trans (if_pos h2))) ?_
        have e : cmpN (val a) (val b) = 1 := by unfold cmpN; rw [if_neg (by omega), if_neg (by omega)]
        rw [e]; exact Ev.now _
      · refine Ev.step (fun k => (hr k).trans ((if_neg h1).trans (if_neg h2))) (ih (by omega) ?_)
        rw [da, db]; omega
theorem cmp_ev {a b : List Int} (ha : Lb a) (hb : Lb b) (h1 : a.length < 1000000) (h2 : b.length < 1000000) : Ev (fun k => tabardref1_Cmp.f k a b) (cmpN (val a) (val b)) := by
  have hpa := val_lt ha
  have hpb := val_lt hb
  have la := limbs_len_le hpa
  have lb := limbs_len_le hpb
  have va := val_limbs (val a)
  have vb := val_limbs (val b)
  have pa := val_lt (lb_limbs (val a))
  have pb := val_lt (lb_limbs (val b))
  rw [va] at pa; rw [vb] at pb
  unfold tabardref1_Cmp.f
  refine Ev.bind (trim_ev ha (by omega)) (Ev.bind (trim_ev hb (by omega)) ?_)
  by_cases h : (limbs (val a)).length = (limbs (val b)).length
  · have hc := cmp_l0 (lb_limbs (val a)) (lb_limbs (val b)) h (by omega) (limbs (val a)).length (Nat.le_refl _) (by
      rw [va, vb, Nat.div_eq_of_lt pa, h, Nat.div_eq_of_lt pb])
    rw [va, vb] at hc
    refine Ev.congr (fun k => ?_) hc
    rw [if_pos (by omega), w64 (by omega) (by omega)]
  · refine Ev.congr (f := fun _ => some (cmpN (val a) (val b))) (fun k => ?_) (Ev.now _)
    rw [if_neg (by omega)]
    by_cases hlt : (limbs (val a)).length < (limbs (val b)).length
    · rw [if_pos (by omega)]
      have : val a < val b := by
        rcases Nat.lt_or_ge (val a) (val b) with h | h
        · exact h
        · exfalso
          have : (limbs (val b)).length ≤ (limbs (val a)).length := limbs_len_le (Nat.lt_of_le_of_lt h pa)
          omega
      unfold cmpN; rw [if_pos this]
    · rw [if_neg (by omega)]
      have : val b < val a := by
        rcases Nat.lt_or_ge (val b) (val a) with h | h
        · exact h
        · exfalso
          have : (limbs (val a)).length ≤ (limbs (val b)).length := limbs_len_le (Nat.lt_of_le_of_lt h pb)
          omega
      unfold cmpN; rw [if_neg (by omega), if_neg (by omega)]

/-- Bit. -/
theorem bit_eq {l : List Int} (hl : Lb l) (i : Nat) (hi : i < 9223372036854775808) : tabardref1_Bit.f l (i : Int) = some ((val l).testBit i) := by
  unfold tabardref1_Bit.f
  have e1 : wrap64 (Int.tdiv (i : Int) 32) = ((i / 32 : Nat) : Int) := by
    rw [Int.tdiv_eq_ediv_of_nonneg (by omega), w64 (by omega) (by omega)]; omega
  have e2 : IntKind.u64.wrap (Int.tmod (i : Int) 32) = ((i % 32 : Nat) : Int) := by
    rw [Int.tmod_eq_emod_of_nonneg (by omega), wu (by omega) (by omega)]; omega
  rw [e1, limb_eq hl, e2]
  simp only [Option.bind_some]
  rw [if_pos (by omega), shr_nat _ _ (by omega), Int.tmod_eq_emod_of_nonneg (Int.natCast_nonneg _)]
  congr 1
  rw [Nat.testBit_eq_decide_div_mod_eq]
  have : val l / 2 ^ (32 * (i / 32)) % 4294967296 / 2 ^ (i % 32) % 2 = val l / 2 ^ i % 2 := by
    have e : i = 32 * (i / 32) + i % 32 := by omega
    have e3 : 2 ^ i = 2 ^ (32 * (i / 32)) * 2 ^ (i % 32) := by rw [← Nat.pow_add, ← e]
    rw [e3, ← Nat.div_div_eq_div_mul]
    generalize val l / 2 ^ (32 * (i / 32)) = v
    have hj : i % 32 < 32 := Nat.mod_lt _ (by omega)
    generalize i % 32 = j at hj
    have e4 : (4294967296 : Nat) = 2 ^ j * (2 * 2 ^ (31 - j)) := by
      rw [show (4294967296 : Nat) = 2 ^ 32 from rfl, show 2 * 2 ^ (31 - j) = 2 ^ (32 - j) from by rw [← Nat.pow_succ']; congr 1; omega, ← Nat.pow_add]
      congr 1; omega
    rw [e4, Nat.mod_mul_right_div_self, Nat.mod_mul_right_mod]
  rw [← this]
  generalize val l / 2 ^ (32 * (i / 32)) % 4294967296 / 2 ^ (i % 32) = z
  rw [show ((z : Int) % 2) = ((z % 2 : Nat) : Int) from by omega]
  by_cases h : z % 2 = 1
  · rw [h]; rfl
  · have : z % 2 = 0 := by omega
    rw [this]; rfl

/-- Len: how many bits. -/
theorem len_l0 (d : Nat) : ∀ (x n : Nat), x < 2 ^ d → x < 4294967296 → n + d < 100000000 → Ev (fun k => tabardref1_Len.l0 k (n : Int) (x : Int)) ((n + blen x : Nat) : Int) := by
  induction d with
  | zero =>
    intro x n hx _ _
    have : x = 0 := by simpa using hx
    subst this
    refine Ev.step (f := fun _ => some (n : Int)) (fun k => ?_) ?_
    · simp only [tabardref1_Len.l0]; rw [if_neg (by omega)]
    · exact Ev.now _
  | succ d ih =>
    intro x n hx hx2 hn
    by_cases h0 : x = 0
    · subst h0
      refine Ev.step (f := fun _ => some (n : Int)) (fun k => ?_) ?_
      · simp only [tabardref1_Len.l0]; rw [if_neg (by omega)]
      · exact Ev.now _
    · have hb : blen x = blen (x / 2) + 1 := by
        by_cases h1 : x / 2 = 0
        · have : x = 1 := by omega
          subst this; rfl
        · have := blen_shift (n := x / 2) (j := 1) (r := x % 2) h1 (by omega)
          rw [show x / 2 * 2 ^ 1 + x % 2 = x from by omega] at this
          exact this
      have := ih (x / 2) (n + 1) (by rw [Nat.pow_succ] at hx; omega) (by omega) (by omega)
      refine Ev.step (fun k => ?_) (show Ev (fun k => tabardref1_Len.l0 k ((n + 1 : Nat) : Int) ((x / 2 : Nat) : Int)) ((n + blen x : Nat) : Int) by rw [hb, show n + (blen (x / 2) + 1) = n + 1 + blen (x / 2) from by omega]; exact this)
      simp only [tabardref1_Len.l0]
      rw [if_pos (by omega), Int.tdiv_eq_ediv_of_nonneg (by omega), w64 (by omega) (by omega)]
      congr 1; omega
theorem len_ev {l : List Int} (hl : Lb l) (h1 : l.length < 1000000) : Ev (fun k => tabardref1_Len.f k l) ((blen (val l) : Nat) : Int) := by
  have hp := val_lt hl
  have hle := limbs_len_le hp
  have hv := val_limbs (val l)
  have hpl := val_lt (lb_limbs (val l))
  rw [hv] at hpl
  unfold tabardref1_Len.f
  refine Ev.bind (trim_ev hl (by omega)) ?_
  by_cases h0 : (limbs (val l)).length = 0
  · refine Ev.congr (f := fun _ => some ((blen (val l) : Nat) : Int)) (fun k => ?_) (Ev.now _)
    rw [if_pos (by omega)]
    have : val l = 0 := by rw [h0] at hpl; simpa using hpl
    rw [this]; rfl
  · obtain ⟨m, hm⟩ : ∃ m, (limbs (val l)).length = m + 1 := ⟨(limbs (val l)).length - 1, by omega⟩
    have e1 : wrap64 (((limbs (val l)).length : Int) - 1) = (m : Int) := by rw [hm, w64 (by omega) (by omega)]; omega
    have e2 : wrap64 (32 * (m : Int)) = ((32 * m : Nat) : Int) := by rw [w64 (by omega) (by omega)]; omega
    have hr := rd_val (lb_limbs (val l)) m
    rw [hv] at hr
    have hx0 : val l / 2 ^ (32 * m) < 4294967296 := by
      apply (Nat.div_lt_iff_lt_mul (Nat.two_pow_pos _)).2
      rw [hm, pow32] at hpl; omega
    have hx1 : val l / 2 ^ (32 * m) ≠ 0 := by
      intro h
      have hlt : val l < 2 ^ (32 * m) := by
        rcases (Nat.div_eq_zero_iff).1 h with h | h
        · have := Nat.two_pow_pos (32 * m); omega
        · exact h
      have := limbs_len_le hlt; omega
    rw [Nat.mod_eq_of_lt hx0] at hr
    have hlen := len_l0 32 (val l / 2 ^ (32 * m)) (32 * m) hx0 hx0 (by omega)
    have hb : 32 * m + blen (val l / 2 ^ (32 * m)) = blen (val l) := by
      have := blen_shift (j := 32 * m) (r := val l % 2 ^ (32 * m)) hx1 (Nat.mod_lt _ (Nat.two_pow_pos _))
      rw [Nat.mul_comm, Nat.div_add_mod] at this
      omega
    rw [hb] at hlen
    refine Ev.congr (fun k => ?_) hlen
    rw [if_neg (by omega), e1, if_pos (by omega), if_pos (by omega), e2, hr]

/-- Twice: two times a number, and one more, perhaps. -/
theorem twice_round (a out : List Int) (x c i : Nat) (k : Nat) (h0 : (i : Int) < (a.length : Int)) (hr : rd a (i : Int) = (x : Int)) (hx : x < 4294967296) (hc : c ≤ 1) (ho : out.length < 35184372088832) (hi : (i : Int) < 1000000) :
    tabardref1_Twice.l0 (k + 1) a out (c : Int) (i : Int) = tabardref1_Twice.l0 k a (out ++ [(((x + x + c) % 4294967296 : Nat) : Int)]) (((x + x + c) / 4294967296 : Nat) : Int) ((i + 1 : Nat) : Int) := by
  have e3 : wrap64 ((i : Int) + 1) = ((i + 1 : Nat) : Int) := by rw [w64 (by omega) (by omega)]; omega
  have e1 : IntKind.u64.wrap (IntKind.u64.wrap (2 * IntKind.u64.wrap (x : Int)) + (c : Int)) = ((x + x + c : Nat) : Int) := by
    rw [wu (x := (x : Int)) (by omega) (by omega), wu (x := 2 * (x : Int)) (by omega) (by omega), wu (by omega) (by omega)]; omega
  simp only [tabardref1_Twice.l0]
  rw [if_pos h0, if_pos (by omega), if_pos ho, hr, e1, e3, Int.tmod_eq_emod_of_nonneg (by omega)]
  congr 3
  omega
theorem twice_l0 {a : List Int} (ha : Lb a) (hbig : a.length < 1000000) (c0 : Nat) (d : Nat) : ∀ (i : Nat) (out : List Int) (c : Nat),
    a.length - i = d → i ≤ a.length → out.length = i → Lb out → c ≤ 1 → val out + 2 ^ (32 * i) * c = val a % 2 ^ (32 * i) + (val a % 2 ^ (32 * i) + c0) →
    Ev (fun k => tabardref1_Twice.l0 k a out (c : Int) (i : Int)) (limbs (2 * val a + c0)) := by
  induction d with
  | zero =>
    intro i out c hd hi ho hlb hc hv
    have hin : i = a.length := by omega
    have h0 := val_lt ha
    rw [← hin] at h0
    rw [Nat.mod_eq_of_lt h0] at hv
    refine Ev.step (f := fun k => (tabardref1_Trim.f k (out ++ [(c : Int) % 4294967296])).bind fun t => some t) (fun k => ?_) ?_
    · simp only [tabardref1_Twice.l0]
      rw [if_neg (by omega), if_pos (by omega)]
    · have hx : Lb (out ++ [(c : Int) % 4294967296]) := hlb.append (Lb.one (by omega) (by omega))
      refine Ev.bind (trim_ev hx (by simp; omega)) ?_
      have : val (out ++ [(c : Int) % 4294967296]) = 2 * val a + c0 := by
        rw [val_append, ho]
        simp only [val]
        have : ((c : Int) % 4294967296).toNat = c := by omega
        rw [this, Nat.mul_zero, Nat.add_zero]; omega
      rw [this]; exact Ev.now _
  | succ d ih =>
    intro i out c hd hi ho hlb hc hv
    have hla := rd_val ha i
    have hx : val a / 2 ^ (32 * i) % 4294967296 < 4294967296 := Nat.mod_lt _ (by omega)
    have ma := mod_step (val a) i
    generalize val a / 2 ^ (32 * i) % 4294967296 = x at *
    have hl2 : Lb (out ++ [(((x + x + c) % 4294967296 : Nat) : Int)]) := hlb.append (Lb.one (by omega) (by omega))
    refine Ev.step (fun k => twice_round a out x c i k (by omega) hla hx hc (by omega) (by omega)) (ih (i + 1) _ ((x + x + c) / 4294967296) (by omega) (by omega) (by simp [ho]) hl2 (by omega) ?_)
    rw [val_append, ho, ma, pow32]
    simp only [val, Int.toNat_natCast, Nat.mul_zero, Nat.add_zero]
    have := plus_step (x := x) (y := x) hv
    omega
theorem twice_ev {a : List Int} (ha : Lb a) (h1 : a.length < 1000000) (b : Bool) : Ev (fun k => tabardref1_Twice.f k a b) (limbs (2 * val a + b.toNat)) := by
  unfold tabardref1_Twice.f
  cases b with
  | true =>
    refine Ev.congr (f := fun k => tabardref1_Twice.j0 k a [] 1) (fun k => if_pos rfl) (Ev.step (fun k => ?_) (twice_l0 ha h1 1 _ 0 [] 1 rfl (by omega) rfl lb_nil (by omega) (by simp [val, Nat.mod_one])))
    simp only [tabardref1_Twice.j0]; rfl
  | false =>
    refine Ev.congr (f := fun k => tabardref1_Twice.j0 k a [] 0) (fun k => if_neg (by simp)) (Ev.step (fun k => ?_) (twice_l0 ha h1 0 _ 0 [] 0 rfl (by omega) rfl lb_nil (by omega) (by simp [val, Nat.mod_one])))
    simp only [tabardref1_Twice.j0]; rfl

end Go.Proofs.Ytbejjlecpcphoaa.Q
