/-
  The reference's product.
-/
import Derived.Test.YtbejjlecpcphoaaPx35
import Derived.Test.YtbejjlecpcphoaaQ1
namespace Go.Proofs.Ytbejjlecpcphoaa.Q
set_option linter.unusedVariables false
set_option linter.unusedSimpArgs false
open Go.RowKit Go.Proofs.YtbejjlecpcphoaaW.PrintWords Go.Proofs.YtbejjlecpcphoaaW.PrintLast Go.Proofs.YtbejjlecpcphoaaW.PrintMore
open Go.Proofs.Ytbejjlecpcphoaa.P Go.Proofs.Ytbejjlecpcphoaa.LL Go.Proofs.Ytbejjlecpcphoaa.FM

theorem prod_le {x y : Nat} (bx : x < 4294967296) (byy : y < 4294967296) : x * y ≤ 18446744065119617025 := by
  have := Nat.mul_le_mul (show x ≤ 4294967295 by omega) (show y ≤ 4294967295 by omega)
  simpa using this
theorem prod_wrap {x y z c : Nat} (bx : x < 4294967296) (byy : y < 4294967296) (bz : z < 4294967296) (bc : c < 4294967296) : IntKind.u64.wrap (IntKind.u64.wrap (IntKind.u64.wrap (IntKind.u64.wrap (x : Int) * IntKind.u64.wrap (y : Int)) + IntKind.u64.wrap (z : Int)) + (c : Int)) = ((x * y + z + c : Nat) : Int) := by
  have m := prod_le bx byy
  have exy : (x : Int) * (y : Int) = ((x * y : Nat) : Int) := (Int.natCast_mul _ _).symm
  rw [wu (x := (x : Int)) (by omega) (by omega), wu (x := (y : Int)) (by omega) (by omega), wu (x := (z : Int)) (by omega) (by omega), exy]
  generalize x * y = q at *
  rw [wu (x := (q : Int)) (by omega) (by omega), wu (x := (q : Int) + (z : Int)) (by omega) (by omega), wu (by omega) (by omega)]; omega
theorem tmod_cast (t : Nat) : Int.tmod (t : Int) 4294967296 % 4294967296 = ((t % 4294967296 : Nat) : Int) := by
  rw [Int.tmod_eq_emod_of_nonneg (Int.natCast_nonneg _)]; omega
theorem div_cast (t : Nat) : (t : Int) / 4294967296 = ((t / 4294967296 : Nat) : Int) := by omega
theorem succ_w {j : Nat} (h : j < 1000000000) : wrap64 ((j : Int) + 1) = ((j + 1 : Nat) : Int) := by
  rw [w64 (by omega) (by omega)]; omega
theorem add_w {i j p : Nat} (hp : p = i + j) (h : p < 1000000000) : wrap64 ((i : Int) + (j : Int)) = (p : Int) := by
  rw [w64 (by omega) (by omega)]; omega
/-- One step of a product: a limb times a limb, and what was there, and what is carried. -/
theorem times_round (a b out : List Int) (x y z c i j p : Nat) (k : Nat) (hj : (j : Int) < (b.length : Int)) (hi : (i : Int) < (a.length : Int)) (hp : p = i + j) (hpo : (p : Int) < (out.length : Int)) (hbig : out.length < 3000000)
    (hx : rd a (i : Int) = (x : Int)) (hy : rd b (j : Int) = (y : Int)) (hz : rd out (p : Int) = (z : Int)) (bx : x < 4294967296) (byy : y < 4294967296) (bz : z < 4294967296) (bc : c < 4294967296) :
    tabardref1_Times.l1 (k + 1) a b out (i : Int) (c : Int) (j : Int) = tabardref1_Times.l1 k a b (out.set p (((x * y + z + c) % 4294967296 : Nat) : Int)) (i : Int) (((x * y + z + c) / 4294967296 : Nat) : Int) ((j + 1 : Nat) : Int) := by
  have hp2 : p < 1000000000 := by omega
  have hj2 : j < 1000000000 := by omega
  have f1 : (0 : Int) ≤ (i : Int) := Int.natCast_nonneg _
  have f2 : (0 : Int) ≤ (j : Int) := Int.natCast_nonneg _
  have f3 : (0 : Int) ≤ (p : Int) := Int.natCast_nonneg _
  have e1 := add_w hp hp2
  have e3 := succ_w hj2
  have e2 := prod_wrap bx byy bz bc
  have e4 : ∀ t : Nat, Int.tmod (t : Int) 4294967296 % 4294967296 = ((t % 4294967296 : Nat) : Int) := tmod_cast
  have e6 : ∀ t : Nat, (t : Int) / 4294967296 = ((t / 4294967296 : Nat) : Int) := div_cast
  simp only [tabardref1_Times.l1]
  rw [if_pos hj, if_pos f1, if_pos hi, if_pos f2, e1, if_pos f3, if_pos hpo, hx, hy, hz, e2, e3, Int.toNat_natCast, e4, e6]
/-- The arithmetic of one step. -/
theorem times_step {P Q x y z c V W B : Nat} (hV : W + P * Q * (z) = V + P * Q * ((x * y + z + c) % 4294967296)) (hv : V + P * Q * c = B) : W + 4294967296 * (P * Q) * ((x * y + z + c) / 4294967296) = B + P * Q * (x * y) := by
  have h1 : P * Q * ((x * y + z + c) % 4294967296) + 4294967296 * (P * Q) * ((x * y + z + c) / 4294967296) = P * Q * (x * y + z + c) := by
    rw [Nat.mul_comm 4294967296 (P * Q), Nat.mul_assoc (P * Q), ← Nat.mul_add, Nat.mod_add_div]
  rw [Nat.mul_add, Nat.mul_add] at h1
  generalize P * Q * ((x * y + z + c) % 4294967296) = m1 at *
  generalize 4294967296 * (P * Q) * ((x * y + z + c) / 4294967296) = m2 at *
  generalize P * Q * (x * y) = m3 at *
  generalize P * Q * z = m4 at *
  generalize P * Q * c = m5 at *
  omega
theorem drop_set_val {l : List Int} (hl : Lb l) {p m : Nat} {v : Int} (h0 : 0 ≤ v) (h1 : v < 4294967296) (h : p < m) : val (l.set p v) / 2 ^ (32 * m) = val l / 2 ^ (32 * m) := by
  rw [← val_drop (hl.set p h0 h1) m, ← val_drop hl m, List.drop_set_of_lt h]
/-- A row: one limb of the first, all of the second. -/
theorem times_l1 {a b : List Int} (ha : Lb a) (hb : Lb b) (h1 : a.length < 1000000) (h2 : b.length < 1000000) (i : Nat) (hi : i < a.length) (R : List Int)
    (hrest : ∀ out c, out.length = a.length + b.length + 1 → Lb out → c < 4294967296 → val out + 2 ^ (32 * i) * 2 ^ (32 * b.length) * c = (val a % 2 ^ (32 * (i + 1))) * val b → val out / 2 ^ (32 * (i + b.length)) = 0 → Ev (fun k => tabardref1_Times.l1 k a b out (i : Int) (c : Int) (b.length : Int)) R) (d : Nat) :
    ∀ (j : Nat) (out : List Int) (c : Nat), b.length - j = d → j ≤ b.length → out.length = a.length + b.length + 1 → Lb out → c < 4294967296 →
      val out + 2 ^ (32 * i) * 2 ^ (32 * j) * c = (val a % 2 ^ (32 * i)) * val b + 2 ^ (32 * i) * (val a / 2 ^ (32 * i) % 4294967296) * (val b % 2 ^ (32 * j)) → val out / 2 ^ (32 * (i + b.length)) = 0 →
      Ev (fun k => tabardref1_Times.l1 k a b out (i : Int) (c : Int) (j : Int)) R := by
  induction d with
  | zero =>
    intro j out c hd hj ho hlb hc hv hz
    have : j = b.length := by omega
    subst this
    refine hrest out c ho hlb hc ?_ hz
    rw [Nat.mod_eq_of_lt (val_lt hb)] at hv
    rw [hv, mod_step, Nat.add_mul]
  | succ d ih =>
    intro j out c hd hj ho hlb hc hv hz
    have hx := rd_val ha i
    have hy := rd_val hb j
    have hzr := rd_val hlb (i + j)
    have bx : val a / 2 ^ (32 * i) % 4294967296 < 4294967296 := Nat.mod_lt _ (by omega)
    have byy : val b / 2 ^ (32 * j) % 4294967296 < 4294967296 := Nat.mod_lt _ (by omega)
    have bz : val out / 2 ^ (32 * (i + j)) % 4294967296 < 4294967296 := Nat.mod_lt _ (by omega)
    have mb := mod_step (val b) j
    have hset := fun v => val_set hlb (i + j) v (by omega)
    have epow : 2 ^ (32 * (i + j)) = 2 ^ (32 * i) * 2 ^ (32 * j) := by rw [Nat.mul_add, Nat.pow_add]
    have hr := fun k => times_round a b out (val a / 2 ^ (32 * i) % 4294967296) (val b / 2 ^ (32 * j) % 4294967296) (val out / 2 ^ (32 * (i + j)) % 4294967296) c i j (i + j) k (by omega) (by omega) rfl (by omega) (by omega) hx hy hzr bx byy bz hc
    generalize val a / 2 ^ (32 * i) % 4294967296 = x at *
    generalize val b / 2 ^ (32 * j) % 4294967296 = y at *
    generalize val out / 2 ^ (32 * (i + j)) % 4294967296 = z at *
    have m := prod_le bx byy
    have hs := hset (((x * y + z + c) % 4294967296 : Nat) : Int)
    rw [Int.toNat_natCast, epow] at hs
    refine Ev.step hr (ih (j + 1) _ ((x * y + z + c) / 4294967296) (by omega) (by omega) (by simp [ho]) (hlb.set _ (by omega) (by omega)) ?_ ?_ ?_)
    · generalize x * y = q at *; omega
    · have := times_step hs hv
      rw [mb, pow32, Nat.mul_add, ← Nat.add_assoc, Nat.mul_left_comm (2 ^ (32 * i)) 4294967296, this]
      congr 1
      rw [Nat.mul_assoc, Nat.mul_assoc, Nat.mul_left_comm x]
    · rw [drop_set_val hlb (by omega) (by omega) (by omega)]; exact hz
theorem times_l0 {a b : List Int} (ha : Lb a) (hb : Lb b) (h1 : a.length < 1000000) (h2 : b.length < 1000000) (d : Nat) : ∀ (i : Nat) (out : List Int),
    a.length - i = d → i ≤ a.length → out.length = a.length + b.length + 1 → Lb out → val out = (val a % 2 ^ (32 * i)) * val b →
    Ev (fun k => tabardref1_Times.l0 k a b out (i : Int)) (limbs (val a * val b)) := by
  induction d with
  | zero =>
    intro i out hd hi ho hlb hv
    have : i = a.length := by omega
    subst this
    rw [Nat.mod_eq_of_lt (val_lt ha)] at hv
    refine Ev.step (f := fun k => (tabardref1_Trim.f k out).bind fun t => some t) (fun k => ?_) ?_
    · simp only [tabardref1_Times.l0]; rw [if_neg (by omega)]
    · refine Ev.bind (trim_ev hlb (by omega)) ?_
      rw [hv]; exact Ev.now _
  | succ d ih =>
    intro i out hd hi ho hlb hv
    have hzero : val out / 2 ^ (32 * (i + b.length)) = 0 := by
      apply Nat.div_eq_of_lt
      rw [hv, Nat.mul_add, Nat.pow_add]
      have u1 : val a % 2 ^ (32 * i) < 2 ^ (32 * i) := Nat.mod_lt _ (Nat.two_pow_pos _)
      have u2 := val_lt hb
      exact Nat.mul_lt_mul_of_lt_of_le u1 (Nat.le_of_lt u2) (Nat.two_pow_pos _)
    refine Ev.step (f := fun k => tabardref1_Times.l1 k a b out (i : Int) ((0 : Nat) : Int) ((0 : Nat) : Int)) (fun k => ?_) ?_
    · simp only [tabardref1_Times.l0]; rw [if_pos (by omega)]; rfl
    · refine times_l1 ha hb h1 h2 i (by omega) _ (fun out2 c ho2 hlb2 hc hv2 hz2 => ?_) _ 0 out 0 rfl (by omega) ho hlb (by omega) ?_ hzero
      · have hset := val_set hlb2 (i + b.length) ((c : Nat) : Int) (by omega)
        have hz3 : val out2 / 2 ^ (32 * (i + b.length)) % 4294967296 = 0 := by rw [hz2]
        rw [hz3, Nat.mul_zero, Nat.add_zero, Int.toNat_natCast, Nat.mul_add, Nat.pow_add, hv2] at hset
        refine Ev.step (fun k => ?_) (ih (i + 1) (out2.set (i + b.length) ((c : Nat) : Int)) (by omega) (by omega) (by simp [ho2]) (hlb2.set _ (by omega) (by omega)) hset)
        have f1 : ¬ ((b.length : Int) < (b.length : Int)) := by omega
        have f2 : (0 : Int) ≤ ((i + b.length : Nat) : Int) := Int.natCast_nonneg _
        have f3 : ((i + b.length : Nat) : Int) < (out2.length : Int) := by omega
        have f4 : (c : Int) % 4294967296 = ((c : Nat) : Int) := by omega
        have g1 : i + b.length < 1000000000 := by omega
        have g2 : i < 1000000000 := by omega
        have e1 := add_w (i := i) (j := b.length) rfl g1
        have e2 := succ_w g2
        simp only [tabardref1_Times.l1]
        rw [if_neg f1, e1, if_pos f2, if_pos f3, e2, Int.toNat_natCast, f4]
      · rw [hv]; simp [Nat.mod_one]
theorem rtimes_ev {a b : List Int} (ha : Lb a) (hb : Lb b) (h1 : a.length < 1000000) (h2 : b.length < 1000000) : Ev (fun k => tabardref1_Times.f k a b) (limbs (val a * val b)) := by
  have e0 := add_w (i := a.length) (j := b.length) rfl (by omega)
  have e1 := succ_w (j := a.length + b.length) (by clear e0; omega)
  have f1 : (0 : Int) ≤ ((a.length + b.length + 1 : Nat) : Int) := Int.natCast_nonneg _
  have f2 : a.length + b.length + 1 ≤ 70368744177664 := by clear e0 e1; omega
  refine Ev.congr (f := fun k => tabardref1_Times.l0 k a b (List.replicate (a.length + b.length + 1) 0) ((0 : Nat) : Int)) (fun k => ?_) (times_l0 ha hb h1 h2 _ 0 _ rfl (by omega) (by simp) (Lb.replicate _) (by rw [val_replicate]; simp [Nat.mod_one]))
  unfold tabardref1_Times.f
  rw [e0, e1, if_pos f1, Int.toNat_natCast, if_pos f2]
  rfl

end Go.Proofs.Ytbejjlecpcphoaa.Q
