/-
  The reference's functions on naturals: Trim, Nat, limb, Plus, Less.
-/
import Derived.Test.YtbejjlecpcphoaaPx11
import Derived.Test.YtbejjlecpcphoaaPx33
import Derived.Test.YtbejjlecpcphoaaPx34
import Derived.Test.YtbejjlecpcphoaaQA
namespace Go.Proofs.Ytbejjlecpcphoaa.Q
set_option linter.unusedVariables false
set_option linter.unusedSimpArgs false
open Go.RowKit Go.Proofs.YtbejjlecpcphoaaW.PrintWords Go.Proofs.YtbejjlecpcphoaaW.PrintLast Go.Proofs.YtbejjlecpcphoaaW.PrintMore
open Go.Proofs.Ytbejjlecpcphoaa.P Go.Proofs.Ytbejjlecpcphoaa.LL Go.Proofs.Ytbejjlecpcphoaa.FM

theorem rd_val {l : List Int} (hl : Lb l) (i : Nat) : rd l (i : Int) = ((val l / 2 ^ (32 * i) % 4294967296 : Nat) : Int) := by
  unfold rd; rw [Int.toNat_natCast]; exact val_get hl i

/-- Trim: the one list of the number. -/
theorem trim_l0 {l : List Int} (hl : Lb l) (hlen : l.length < 35184372088832) (i : Nat) (hi : i ≤ l.length) (h0 : val (l.drop i) = 0) :
    Ev (fun k => tabardref1_Trim.l0 k l (i : Int)) (limbs (val l)) := by
  induction i with
  | zero =>
    refine Ev.step (f := fun _ => some (limbs (val l))) (fun k => ?_) (Ev.now _)
    simp only [tabardref1_Trim.l0]
    rw [if_neg (by omega)]
    simp only [Option.bind_some]
    rw [if_pos (by omega), if_pos (by omega)]
    have : val l = 0 := by simpa using h0
    rw [this, limbs_zero]
    simp
  | succ i ih =>
    have hlt : i < l.length := by omega
    have e1 : wrap64 (((i + 1 : Nat) : Int) - 1) = (i : Int) := by rw [w64 (by omega) (by omega)]; omega
    by_cases hz : rd l (i : Int) = 0
    · refine Ev.step (fun k => ?_) (ih (by omega) ?_)
      · simp only [tabardref1_Trim.l0]
        rw [if_pos (show ((i + 1 : Nat) : Int) > 0 by omega), e1, if_pos (show (0 : Int) ≤ (i : Int) by omega), if_pos (show (i : Int) < (l.length : Int) by omega), if_pos hz]
      · have : l.drop i = l[i] :: l.drop (i + 1) := List.drop_eq_getElem_cons hlt
        have hz' : l[i] = 0 := by simpa [rd, List.getD_eq_getElem?_getD, List.getElem?_eq_getElem hlt] using hz
        rw [this, val, h0, hz']; rfl
    · refine Ev.step (f := fun _ => some (limbs (val l))) (fun k => ?_) (Ev.now _)
      have hv : val l = val (l.take (i + 1)) := by
        have := val_split l (i + 1) hi
        rw [h0] at this; simpa using this
      have hlim : limbs (val l) = l.take (i + 1) := by
        rw [hv]
        apply limbs_of (hl.take _)
        right
        rw [List.getLastD_eq_getLast?, List.getLast?_eq_getElem?]
        have hl2 : (l.take (i + 1)).length = i + 1 := by simp; omega
        rw [hl2, Nat.add_sub_cancel, List.getElem?_take_of_lt (by omega)]
        intro h; apply hz
        unfold rd; rw [Int.toNat_natCast, List.getD_eq_getElem?_getD]; exact h
      simp only [tabardref1_Trim.l0]
      rw [if_pos (show ((i + 1 : Nat) : Int) > 0 by omega), e1, if_pos (show (0 : Int) ≤ (i : Int) by omega), if_pos (show (i : Int) < (l.length : Int) by omega), if_neg hz]
      simp only [Option.bind_some]
      have ht : (((i + 1 : Nat) : Int)).toNat = i + 1 := by omega
      rw [if_pos (show (0 : Int) ≤ ((i + 1 : Nat) : Int) by omega), if_pos (show ((i + 1 : Nat) : Int) ≤ (l.length : Int) by omega), ht, if_pos (by simp; omega), hlim]
      simp
theorem trim_ev {l : List Int} (hl : Lb l) (hlen : l.length < 35184372088832) : Ev (fun k => tabardref1_Trim.f k l) (limbs (val l)) := by
  unfold tabardref1_Trim.f
  exact trim_l0 hl hlen l.length (Nat.le_refl _) (by simp [val])

/-- limb: the i-th, noughts behind the end. -/
theorem limb_eq {l : List Int} (hl : Lb l) (i : Nat) : tabardref1_limb.f l (i : Int) = some ((val l / 2 ^ (32 * i) % 4294967296 : Nat) : Int) := by
  unfold tabardref1_limb.f
  rw [if_neg (by omega)]
  by_cases h : (i : Int) ≥ (l.length : Int)
  · rw [if_pos h]
    have h2 := val_lt hl
    have : 2 ^ (32 * l.length) ≤ 2 ^ (32 * i) := Nat.pow_le_pow_right (by omega) (by omega)
    rw [Nat.div_eq_of_lt (by omega)]; rfl
  · rw [if_neg h, if_pos (by omega), if_pos (by omega), rd_val hl i, wu (by omega) (by omega)]

/-- The i-th limb, and what lies below it. -/
theorem mod_step (v i : Nat) : v % 2 ^ (32 * (i + 1)) = v % 2 ^ (32 * i) + 2 ^ (32 * i) * (v / 2 ^ (32 * i) % 4294967296) := by
  rw [pow32, Nat.mul_comm, Nat.mod_mul]

/-- The arithmetic of one limb: a sum, and a difference. -/
theorem plus_step {P x y c v A B : Nat} (hv : v + P * c = A + B) : v + P * ((x + y + c) % 4294967296) + 4294967296 * P * ((x + y + c) / 4294967296) = A + P * x + (B + P * y) := by
  have h1 : P * ((x + y + c) % 4294967296) + 4294967296 * P * ((x + y + c) / 4294967296) = P * (x + y + c) := by
    rw [Nat.mul_comm 4294967296 P, Nat.mul_assoc, ← Nat.mul_add, Nat.mod_add_div]
  rw [Nat.add_assoc, h1, Nat.mul_add, Nat.mul_add]
  generalize P * x = m3
  generalize P * y = m4
  generalize P * c = m5 at *
  omega
theorem less_step1 {P x y c v A B : Nat} (hv : v + B = A + P * c) (h : x < y + c) (hy : y + c ≤ 4294967296) : v + P * (x + 4294967296 - (y + c)) + (B + P * y) = A + P * x + 4294967296 * P * 1 := by
  have h1 : P * (x + 4294967296 - (y + c)) + (P * y + P * c) = P * x + 4294967296 * P := by
    rw [← Nat.mul_add, ← Nat.mul_add, show x + 4294967296 - (y + c) + (y + c) = x + 4294967296 from by omega, Nat.mul_add, Nat.mul_comm P 4294967296]
  generalize P * (x + 4294967296 - (y + c)) = m1 at *
  generalize P * x = m3 at *
  generalize P * y = m4 at *
  generalize P * c = m5 at *
  omega
theorem less_step0 {P x y c v A B : Nat} (hv : v + B = A + P * c) (h : ¬ x < y + c) : v + P * (x - (y + c)) + (B + P * y) = A + P * x + 4294967296 * P * 0 := by
  have h1 : P * (x - (y + c)) + (P * y + P * c) = P * x := by
    rw [← Nat.mul_add, ← Nat.mul_add, show x - (y + c) + (y + c) = x from by omega]
  generalize P * (x - (y + c)) = m1 at *
  generalize P * x = m3 at *
  generalize P * y = m4 at *
  generalize P * c = m5 at *
  omega

/-- Plus. -/
theorem plus_l0 {a b : List Int} (ha : Lb a) (hb : Lb b) (n : Nat) (hn1 : a.length ≤ n) (hn2 : b.length ≤ n) (hbig : n < 1000000) (hmin : n = a.length ∨ n = b.length) (d : Nat) : ∀ (i : Nat) (out : List Int) (c : Nat),
    n - i = d → i ≤ n → out.length = i → Lb out → c ≤ 1 → val out + 2 ^ (32 * i) * c = val a % 2 ^ (32 * i) + val b % 2 ^ (32 * i) →
    Ev (fun k => tabardref1_Plus.l0 k a b out (c : Int) (i : Int)) (limbs (val a + val b)) := by
  induction d with
  | zero =>
    intro i out c hd hi ho hlb hc hv
    have hin : i = n := by omega
    have e1 : val a % 2 ^ (32 * i) = val a := Nat.mod_eq_of_lt (Nat.lt_of_lt_of_le (val_lt ha) (Nat.pow_le_pow_right (by omega) (by omega)))
    have e2 : val b % 2 ^ (32 * i) = val b := Nat.mod_eq_of_lt (Nat.lt_of_lt_of_le (val_lt hb) (Nat.pow_le_pow_right (by omega) (by omega)))
    refine Ev.step (f := fun k => tabardref1_Plus.j1 k a b out (c : Int) (i : Int) false) (fun k => ?_) ?_
    · simp only [tabardref1_Plus.l0]
      rw [if_neg (by omega), decide_eq_false (by omega)]
    · refine Ev.step (f := fun k => (tabardref1_Trim.f k (out ++ [(c : Int) % 4294967296])).bind fun t => some t) (fun k => ?_) ?_
      · simp only [tabardref1_Plus.j1]
        rw [if_neg (by simp), if_pos (by omega)]
      · have hx : Lb (out ++ [(c : Int) % 4294967296]) := hlb.append (Lb.one (by omega) (by omega))
        refine Ev.bind (trim_ev hx (by simp; omega)) ?_
        have : val (out ++ [(c : Int) % 4294967296]) = val a + val b := by
          rw [val_append, ho]
          simp only [val]
          have : ((c : Int) % 4294967296).toNat = c := by omega
          rw [this, Nat.mul_zero, Nat.add_zero]; omega
        rw [this]; exact Ev.now _
  | succ d ih =>
    intro i out c hd hi ho hlb hc hv
    have hin : i < n := by omega
    let x := val a / 2 ^ (32 * i) % 4294967296
    let y := val b / 2 ^ (32 * i) % 4294967296
    have hx : x < 4294967296 := Nat.mod_lt _ (by omega)
    have hy : y < 4294967296 := Nat.mod_lt _ (by omega)
    have key : Ev (fun k => tabardref1_Plus.j1 k a b out (c : Int) (i : Int) true) (limbs (val a + val b)) := by
      have hl2 : Lb (out ++ [(((x + y + c) % 4294967296 : Nat) : Int)]) := hlb.append (Lb.one (by omega) (by omega))
      refine Ev.step (fun k => ?_) (ih (i + 1) (out ++ [(((x + y + c) % 4294967296 : Nat) : Int)]) ((x + y + c) / 4294967296) (by omega) (by omega) (by simp [ho]) hl2 (by omega) ?_)
      · simp only [tabardref1_Plus.j1]
        rw [if_pos trivial, limb_eq ha i, limb_eq hb i]
        simp only [Option.bind_some]
        rw [if_pos (by omega)]
        have e1 : IntKind.u64.wrap ((((x : Nat) : Int)) + ((y : Nat) : Int)) = ((x + y : Nat) : Int) := by rw [wu (by omega) (by omega)]; omega
        have e2 : IntKind.u64.wrap (((x + y : Nat) : Int) + (c : Int)) = ((x + y + c : Nat) : Int) := by rw [wu (by omega) (by omega)]; omega
        have e3 : wrap64 ((i : Int) + 1) = ((i + 1 : Nat) : Int) := by rw [w64 (by omega) (by omega)]; omega
        show tabardref1_Plus.l0 k a b (out ++ [Int.tmod (IntKind.u64.wrap (IntKind.u64.wrap (((x : Nat) : Int) + ((y : Nat) : Int)) + (c : Int))) 4294967296 % 4294967296]) (IntKind.u64.wrap (IntKind.u64.wrap (((x : Nat) : Int) + ((y : Nat) : Int)) + (c : Int)) / 4294967296) (wrap64 ((i : Int) + 1)) = _
        rw [e1, e2, e3, Int.tmod_eq_emod_of_nonneg (by omega)]
        congr 2
        simp
      · rw [val_append, ho]
        simp only [val]
        rw [mod_step (val a) i, mod_step (val b) i, pow32]
        have : (((x + y + c) % 4294967296 : Nat) : Int).toNat = (x + y + c) % 4294967296 := by omega
        rw [this, Nat.mul_zero, Nat.add_zero]
        show val out + 2 ^ (32 * i) * ((x + y + c) % 4294967296) + 4294967296 * 2 ^ (32 * i) * ((x + y + c) / 4294967296) = val a % 2 ^ (32 * i) + 2 ^ (32 * i) * x + (val b % 2 ^ (32 * i) + 2 ^ (32 * i) * y)
        exact plus_step hv
    refine Ev.step (fun k => ?_) key
    simp only [tabardref1_Plus.l0]
    by_cases hia : (i : Int) < (a.length : Int)
    · rw [if_pos hia]
    · rw [if_neg hia, decide_eq_true (by omega)]
theorem plus_ev {a b : List Int} (ha : Lb a) (hb : Lb b) (h1 : a.length < 1000000) (h2 : b.length < 1000000) : Ev (fun k => tabardref1_Plus.f k a b) (limbs (val a + val b)) := by
  unfold tabardref1_Plus.f
  exact plus_l0 ha hb (max a.length b.length) (by omega) (by omega) (by omega) (by omega) _ 0 [] 0 rfl (by omega) rfl lb_nil (by omega) (by simp [val, Nat.mod_one])

/-- Less: a is not below b. -/
theorem less_round (a b out : List Int) (x y c i : Nat) (k : Nat) (h0 : (i : Int) < (a.length : Int)) (hla : tabardref1_limb.f a (i : Int) = some (x : Int)) (hlb : tabardref1_limb.f b (i : Int) = some (y : Int)) (hx : x < 4294967296) (hy : y < 4294967296) (hc : c ≤ 1) (ho : out.length < 35184372088832) (hi : (i : Int) < 1000000) :
    tabardref1_Less.l0 (k + 1) a b out (c : Int) (i : Int) = if x < y + c then tabardref1_Less.l0 k a b (out ++ [((x + 4294967296 - (y + c) : Nat) : Int)]) 1 ((i + 1 : Nat) : Int) else tabardref1_Less.l0 k a b (out ++ [((x - (y + c) : Nat) : Int)]) 0 ((i + 1 : Nat) : Int) := by
  have e1 : IntKind.u64.wrap ((y : Int) + (c : Int)) = ((y + c : Nat) : Int) := by rw [wu (by omega) (by omega)]; omega
  have e3 : wrap64 ((i : Int) + 1) = ((i + 1 : Nat) : Int) := by rw [w64 (by omega) (by omega)]; omega
  have e2 : IntKind.u64.wrap ((x : Int) + 4294967296) = ((x + 4294967296 : Nat) : Int) := by rw [wu (by omega) (by omega)]; omega
  simp only [tabardref1_Less.l0]
  rw [if_pos h0, hla, hlb]
  simp only [Option.bind_some]
  rw [e1, e2, e3]
  by_cases h : x < y + c
  · have e4 : IntKind.u64.wrap (((x + 4294967296 : Nat) : Int) - ((y + c : Nat) : Int)) % 4294967296 = ((x + 4294967296 - (y + c) : Nat) : Int) := by rw [wu (by omega) (by omega)]; omega
    rw [if_pos (show (x : Int) < ((y + c : Nat) : Int) by omega), if_pos h, if_pos ho, e4]
  · have e4 : IntKind.u64.wrap ((x : Int) - ((y + c : Nat) : Int)) % 4294967296 = ((x - (y + c) : Nat) : Int) := by rw [wu (by omega) (by omega)]; omega
    rw [if_neg (show ¬ (x : Int) < ((y + c : Nat) : Int) by omega), if_neg h, if_pos ho, e4]
theorem less_l0 {a b : List Int} (ha : Lb a) (hb : Lb b) (hbig : a.length < 1000000) (hge : val b ≤ val a) (d : Nat) : ∀ (i : Nat) (out : List Int) (c : Nat),
    a.length - i = d → i ≤ a.length → out.length = i → Lb out → c ≤ 1 → val out + val b % 2 ^ (32 * i) = val a % 2 ^ (32 * i) + 2 ^ (32 * i) * c →
    Ev (fun k => tabardref1_Less.l0 k a b out (c : Int) (i : Int)) (limbs (val a - val b)) := by
  induction d with
  | zero =>
    intro i out c hd hi ho hlb hc hv
    have hin : i = a.length := by omega
    have h0 := val_lt ha
    rw [← hin] at h0
    have e1 : val a % 2 ^ (32 * i) = val a := Nat.mod_eq_of_lt h0
    have e2 : val b % 2 ^ (32 * i) = val b := Nat.mod_eq_of_lt (Nat.lt_of_le_of_lt hge h0)
    have h3 := val_lt hlb
    rw [ho] at h3
    rw [e1, e2] at hv
    generalize 2 ^ (32 * i) = P at *
    have hc0 : c = 0 := by
      rcases Nat.lt_or_ge c 1 with h | h
      · omega
      · have : c = 1 := by omega
        subst this; rw [Nat.mul_one] at hv; omega
    subst hc0
    refine Ev.step (f := fun k => (tabardref1_Trim.f k out).bind fun t => some t) (fun k => ?_) ?_
    · simp only [tabardref1_Less.l0]
      rw [if_neg (by omega)]
    · refine Ev.bind (trim_ev hlb (by omega)) ?_
      have : val out = val a - val b := by omega
      rw [this]; exact Ev.now _
  | succ d ih =>
    intro i out c hd hi ho hlb hc hv
    have hla := limb_eq ha i
    have hlb' := limb_eq hb i
    have hx : val a / 2 ^ (32 * i) % 4294967296 < 4294967296 := Nat.mod_lt _ (by omega)
    have hy : val b / 2 ^ (32 * i) % 4294967296 < 4294967296 := Nat.mod_lt _ (by omega)
    have ma := mod_step (val a) i
    have mb := mod_step (val b) i
    generalize val a / 2 ^ (32 * i) % 4294967296 = x at *
    generalize val b / 2 ^ (32 * i) % 4294967296 = y at *
    have hr := fun k => less_round a b out x y c i k (by omega) hla hlb' hx hy hc (by omega) (by omega)
    by_cases hlt : x < y + c
    · have hl2 : Lb (out ++ [((x + 4294967296 - (y + c) : Nat) : Int)]) := hlb.append (Lb.one (by omega) (by omega))
      refine Ev.step (fun k => (hr k).trans (if_pos hlt)) (ih (i + 1) (out ++ [((x + 4294967296 - (y + c) : Nat) : Int)]) 1 (by omega) (by omega) (by simp [ho]) hl2 (by omega) ?_)
      rw [val_append, ho, ma, mb, pow32]
      simp only [val, Int.toNat_natCast, Nat.mul_zero, Nat.add_zero]
      exact less_step1 hv hlt (by omega)
    · have hl2 : Lb (out ++ [((x - (y + c) : Nat) : Int)]) := hlb.append (Lb.one (by omega) (by omega))
      refine Ev.step (fun k => (hr k).trans (if_neg hlt)) (ih (i + 1) (out ++ [((x - (y + c) : Nat) : Int)]) 0 (by omega) (by omega) (by simp [ho]) hl2 (by omega) ?_)
      rw [val_append, ho, ma, mb, pow32]
      simp only [val, Int.toNat_natCast, Nat.mul_zero, Nat.add_zero]
      have := less_step0 hv hlt
      rwa [Nat.mul_zero, Nat.add_zero] at this
theorem less_ev {a b : List Int} (ha : Lb a) (hb : Lb b) (h1 : a.length < 1000000) (hge : val b ≤ val a) : Ev (fun k => tabardref1_Less.f k a b) (limbs (val a - val b)) := by
  unfold tabardref1_Less.f
  exact less_l0 ha hb h1 hge _ 0 [] 0 rfl (by omega) rfl lb_nil (by omega) (by simp [val, Nat.mod_one])
end Go.Proofs.Ytbejjlecpcphoaa.Q
