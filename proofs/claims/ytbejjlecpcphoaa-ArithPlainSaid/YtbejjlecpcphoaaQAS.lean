/-
  The sum of two finite floats in package arith is the number nearest to the exact one.
-/
import Derived.Test.YtbejjlecpcphoaaPx46
import Derived.Test.YtbejjlecpcphoaaPx6
import Derived.Test.YtbejjlecpcphoaaQFN
import Derived.Test.YtbejjlecpcphoaaQFC
namespace Go.Proofs.Ytbejjlecpcphoaa.Q
set_option linter.unusedVariables false
open Go.RowKit Go.Proofs.YtbejjlecpcphoaaW.PrintWords Go.Proofs.YtbejjlecpcphoaaW.PrintLast Go.Proofs.YtbejjlecpcphoaaW.PrintMore
open Go.Proofs.Ytbejjlecpcphoaa.P Go.Proofs.Ytbejjlecpcphoaa.LL Go.Proofs.Ytbejjlecpcphoaa.FM

/-- The sum of two numbers with signs, times 2^e, rounded. -/
@[irreducible] def finE (e : Int) (n1 : Bool) (X : Nat) (n2 : Bool) (Y : Nat) : Nat :=
  if n1 = n2 then (if X + Y = 0 then 0 else sgn n1 (near (X + Y) e false))
  else if X = Y then 0 else if Y < X then sgn n1 (near (X - Y) e false) else sgn n2 (near (Y - X) e false)
theorem finE_same (e : Int) (n : Bool) {X Y : Nat} (h : X + Y ≠ 0) : finE e n X n Y = sgn n (near (X + Y) e false) := by
  unfold finE; rw [if_pos rfl, if_neg h]
theorem finE_zero (e : Int) (n1 n2 : Bool) {X Y : Nat} (h : X + Y = 0) : finE e n1 X n2 Y = 0 := by
  unfold finE
  by_cases hn : n1 = n2
  · rw [if_pos hn, if_pos h]
  · rw [if_neg hn, if_pos (by omega)]
theorem finE_eq (e : Int) {n1 n2 : Bool} (hn : n1 ≠ n2) (X : Nat) : finE e n1 X n2 X = 0 := by
  unfold finE; rw [if_neg hn, if_pos rfl]
theorem finE_gt (e : Int) {n1 n2 : Bool} (hn : n1 ≠ n2) {X Y : Nat} (h : Y < X) : finE e n1 X n2 Y = sgn n1 (near (X - Y) e false) := by
  unfold finE; rw [if_neg hn, if_neg (by omega), if_pos h]
theorem finE_lt (e : Int) {n1 n2 : Bool} (hn : n1 ≠ n2) {X Y : Nat} (h : X < Y) : finE e n1 X n2 Y = sgn n2 (near (Y - X) e false) := by
  unfold finE; rw [if_neg hn, if_neg (by omega), if_neg (by omega)]
theorem finE_comm (e : Int) (n1 n2 : Bool) (X Y : Nat) : finE e n1 X n2 Y = finE e n2 Y n1 X := by
  by_cases hn : n1 = n2
  · subst hn
    by_cases h : X + Y = 0
    · rw [finE_zero e n1 n1 h, finE_zero e n1 n1 (by omega)]
    · rw [finE_same e n1 h, finE_same e n1 (by omega), Nat.add_comm]
  · rcases Nat.lt_trichotomy X Y with h | h | h
    · rw [finE_lt e hn h, finE_gt e (fun q => hn q.symm) h]
    · subst h; rw [finE_eq e hn, finE_eq e (fun q => hn q.symm)]
    · rw [finE_gt e hn h, finE_lt e (fun q => hn q.symm) h]
theorem finE_scale (e : Int) (n1 n2 : Bool) (X Y j : Nat) : finE (e - j) n1 (X * 2 ^ j) n2 (Y * 2 ^ j) = finE e n1 X n2 Y := by
  have hp := Nat.two_pow_pos j
  by_cases h : X + Y = 0
  · have h1 : X = 0 := by omega
    have h2 : Y = 0 := by omega
    rw [h1, h2, Nat.zero_mul, finE_zero _ _ _ rfl, finE_zero _ _ _ rfl]
  have hs : X * 2 ^ j + Y * 2 ^ j ≠ 0 := by rw [← Nat.add_mul]; exact Nat.mul_ne_zero h (by omega)
  by_cases hn : n1 = n2
  · subst hn
    rw [finE_same _ _ hs, finE_same _ _ h, ← Nat.add_mul, near_scale]
  · rcases Nat.lt_trichotomy X Y with h | h | h
    · rw [finE_lt e hn h, finE_lt _ hn ((Nat.mul_lt_mul_right hp).2 h), ← Nat.sub_mul, near_scale]
    · subst h; rw [finE_eq e hn, finE_eq _ hn]
    · rw [finE_gt e hn h, finE_gt _ hn ((Nat.mul_lt_mul_right hp).2 h), ← Nat.sub_mul, near_scale]
theorem join_nat (neg more : Bool) {N : Nat} (hN : N < 340282366920938463463374607431768211456) (e : Int) (h0 : -9223372036854775808 ≤ e) :
    Ev (fun k => float_Join.f k neg (hiW N) (loW N) e more) ((sgn neg (near N e more) : Nat) : Int) := by
  have j := join_ev neg more (hiW_word N) (loW_word N) e h0
  rw [two_hilo hN] at j; exact j
theorem add_nat {A B : Nat} (hA : A < 340282366920938463463374607431768211456) (hB : B < 340282366920938463463374607431768211456) :
    wide_Add.f (hiW A) (loW A) (hiW B) (loW B) = some (hiW (A + B), loW (A + B), decide (340282366920938463463374607431768211456 ≤ A + B)) := by
  have h := add_eq (hiW_word A) (loW_word A) (hiW_word B) (loW_word B)
  rw [two_hilo hA, two_hilo hB] at h; exact h
theorem sub_nat_lt {A B : Nat} (hA : A < 340282366920938463463374607431768211456) (hB : B < 340282366920938463463374607431768211456) (h : A < B) :
    ∃ x y, wide_Sub.f (hiW A) (loW A) (hiW B) (loW B) = some (x, y, true) := by
  have s := sub_eq (hiW_word A) (loW_word A) (hiW_word B) (loW_word B)
  rw [two_hilo hA, two_hilo hB, decide_eq_true h] at s; exact ⟨_, _, s⟩
theorem sub_nat_ge {A B : Nat} (hA : A < 340282366920938463463374607431768211456) (hB : B < 340282366920938463463374607431768211456) (h : B ≤ A) :
    wide_Sub.f (hiW A) (loW A) (hiW B) (loW B) = some (hiW (A - B), loW (A - B), false) := by
  have s := sub_eq (hiW_word A) (loW_word A) (hiW_word B) (loW_word B)
  rw [two_hilo hA, two_hilo hB, decide_eq_false (by omega)] at s
  have e1 : hiW (A + 340282366920938463463374607431768211456 - B) = hiW (A - B) := by unfold hiW; omega
  have e2 : loW (A + 340282366920938463463374607431768211456 - B) = loW (A - B) := by unfold loW; omega
  rw [e1, e2] at s; exact s
theorem zero_test {D : Nat} (hD : D < 340282366920938463463374607431768211456) : ((hiW D == 0 && (loW D == 0)) = true) ↔ D = 0 := by
  have e : (hiW D == 0 && (loW D == 0)) = true ↔ (hiW D = 0 ∧ loW D = 0) := by simp
  rw [e]; unfold hiW loW; omega
theorem sum_j1_lt (n1 n2 more : Bool) {A B : Nat} (hA : A < 340282366920938463463374607431768211456) (hB : B < 340282366920938463463374607431768211456) (e : Int) (h0 : -9223372036854775808 ≤ e) (h : A < B) :
    Ev (fun k => arith_sum.j1 k n1 n2 e more (hiW A) (loW A) (hiW B) (loW B)) ((sgn n2 (near (B - A) e false) : Nat) : Int) := by
  obtain ⟨x, y, s1⟩ := sub_nat_lt hA hB h
  have s2 := sub_nat_ge hB hA (Nat.le_of_lt h)
  have j := join_nat n2 false (N := B - A) (by omega) e h0
  refine Ev.step (f := fun k => (float_Join.f k n2 (hiW (B - A)) (loW (B - A)) e false).bind fun t815 => (some t815)) (fun k => ?_) (Ev.bind j (Ev.now _))
  simp only [arith_sum.j1]
  rw [bind_eq s1, if_pos (show (x, y, true).2.2 = true from rfl), bind_eq s2]
theorem sum_j1_ge (n1 n2 more : Bool) {A B : Nat} (hA : A < 340282366920938463463374607431768211456) (hB : B < 340282366920938463463374607431768211456) (e : Int) (h0 : -9223372036854775808 ≤ e) (h : B ≤ A) (hm : A ≠ B ∨ more = true) :
    Ev (fun k => arith_sum.j1 k n1 n2 e more (hiW A) (loW A) (hiW B) (loW B)) ((sgn n1 (near (A - B) e more) : Nat) : Int) := by
  have s1 := sub_nat_ge hA hB h
  have j := join_nat n1 more (N := A - B) (by omega) e h0
  have zt := zero_test (D := A - B) (by omega)
  refine Ev.step (f := fun k => (float_Join.f k n1 (hiW (A - B)) (loW (A - B)) e more).bind fun t815 => (some t815)) (fun k => ?_) (Ev.bind j (Ev.now _))
  simp only [arith_sum.j1]
  rw [bind_eq s1, if_neg (by simp)]
  by_cases hz : A - B = 0
  · rw [if_pos (zt.2 hz), if_pos (hm.resolve_left (by omega))]
  · rw [if_neg (fun hh => hz (zt.1 hh))]
theorem sum_j1_eq (n1 n2 : Bool) {A : Nat} (hA : A < 340282366920938463463374607431768211456) (e : Int) :
    Ev (fun k => arith_sum.j1 k n1 n2 e false (hiW A) (loW A) (hiW A) (loW A)) 0 := by
  have s1 := sub_nat_ge hA hA (Nat.le_refl _)
  have zt := zero_test (D := A - A) (by omega)
  refine Ev.step (f := fun _ => some 0) (fun k => ?_) (Ev.now _)
  simp only [arith_sum.j1]
  rw [bind_eq s1, if_neg (by simp), if_pos (zt.2 (by omega)), if_neg (by simp)]
/-- What is left of the two, in the units of the greater: the sum told by its upper part and 'more'. -/
theorem near_parts2 {A B v r : Nat} (e : Int) (hr : r < 2 ^ v) (hA : 54 ≤ blen (A + B)) : near (A * 2 ^ v + (B * 2 ^ v + r)) (e - v) false = near (A + B) e (decide (r ≠ 0)) := by
  have hp := Nat.two_pow_pos v
  have hN : A * 2 ^ v + (B * 2 ^ v + r) = 2 ^ v * (A + B) + r := by rw [Nat.mul_comm, Nat.mul_comm B, Nat.mul_add]; omega
  have hd : (A * 2 ^ v + (B * 2 ^ v + r)) / 2 ^ v = A + B := by rw [hN, Nat.mul_add_div hp, Nat.div_eq_of_lt hr, Nat.add_zero]
  have hm : (A * 2 ^ v + (B * 2 ^ v + r)) % 2 ^ v = r := by rw [hN, Nat.mul_add_mod, Nat.mod_eq_of_lt hr]
  have c := near_cut (A * 2 ^ v + (B * 2 ^ v + r)) v (e - v) false (by rw [hd]; exact hA)
  rw [hd, hm, Bool.false_or, show e - (v : Int) + (v : Int) = e by omega] at c
  exact c
theorem near_less0 {A B v : Nat} (e : Int) (hB : B ≤ A) (hA : 54 ≤ blen (A - B)) : near (A * 2 ^ v - (B * 2 ^ v + 0)) (e - v) false = near (A - B) e false := by
  rw [Nat.add_zero, ← Nat.sub_mul, near_scale]
theorem near_less {A B v r : Nat} (e : Int) (h0 : r ≠ 0) (hr : r < 2 ^ v) (hB : B + 1 ≤ A) (hA : 54 ≤ blen (A - (B + 1))) : near (A * 2 ^ v - (B * 2 ^ v + r)) (e - v) false = near (A - (B + 1)) e true := by
  have hN : A * 2 ^ v - (B * 2 ^ v + r) = (A - (B + 1)) * 2 ^ v + (2 ^ v - r) := by
    obtain ⟨D, rfl⟩ : ∃ D, A = D + (B + 1) := ⟨A - (B + 1), by omega⟩
    rw [Nat.add_sub_cancel, Nat.add_mul, Nat.add_mul, Nat.one_mul]; omega
  rw [hN]
  exact near_sticky e false hA (by omega) (by omega)
theorem sum_core (n1 n2 : Bool) (A m2 v : Nat) (e : Int) (hA : A < 2 ^ 120) (h2 : m2 < 9007199254740992) (h0 : -9223372036854775808 ≤ e) (hv : v = 0 ∨ 2 ^ 116 ≤ A) (hv2 : v < 100000) (hz : A ≠ 0 ∨ m2 ≠ 0) :
    Ev (fun k => (wide_Shr.f k 0 (m2 : Int) (v : Int)).bind fun bt796 => (if (n1 == n2) = true then ((wide_Add.f (hiW A) (loW A) bt796.1 bt796.2.1).bind fun bt800 => ((float_Join.f k n1 bt800.1 bt800.2.1 e bt796.2.2).bind fun t804 => (some t804))) else (if bt796.2.2 = true then ((wide_Add.f bt796.1 bt796.2.1 0 1).bind fun bt805 => (arith_sum.j1 k n1 n2 e bt796.2.2 (hiW A) (loW A) bt805.1 bt805.2.1)) else (arith_sum.j1 k n1 n2 e bt796.2.2 (hiW A) (loW A) bt796.1 bt796.2.1)))) ((finE (e - v) n1 (A * 2 ^ v) n2 m2 : Nat) : Int) := by
  have hA2 : A < 340282366920938463463374607431768211456 := Nat.lt_of_lt_of_le hA (by decide)
  have hA3 : A < 1329227995784915872903807060280344576 := hA
  have s := wshr_ev word_0 (word_nat (x := m2) (by omega)) (n := (v : Int)) (by omega)
  rw [two0, Int.toNat_natCast] at s
  have hp := Nat.two_pow_pos v
  have hB : m2 / 2 ^ v < 9007199254740992 := Nat.lt_of_le_of_lt (Nat.div_le_self _ _) h2
  have hr : m2 % 2 ^ v < 2 ^ v := Nat.mod_lt _ hp
  have hm : m2 = m2 / 2 ^ v * 2 ^ v + m2 % 2 ^ v := by rw [Nat.mul_comm]; exact (Nat.div_add_mod m2 (2 ^ v)).symm
  have hbig : v ≠ 0 → 83076749736557242056487941267521536 ≤ A := fun hh => hv.resolve_left hh
  have hblen : ∀ N, 41538374868278621028243970633760768 ≤ N → 54 ≤ blen N := fun N hN => Nat.le_trans (show 54 ≤ 116 by decide) (lt_blen_of_le (k := 115) (Nat.le_trans (by decide) hN))
  have hv0 : v = 0 → m2 % 2 ^ v = 0 ∧ m2 / 2 ^ v = m2 ∧ A * 2 ^ v = A ∧ e - (v : Int) = e := fun hh => by
    subst hh; rw [Nat.pow_zero, Nat.mod_one, Nat.div_one, Nat.mul_one]; exact ⟨rfl, rfl, rfl, by omega⟩
  refine Ev.bind s ?_
  by_cases hn : n1 = n2
  · subst hn
    have a := add_nat hA2 (B := m2 / 2 ^ v) (by omega)
    have j := join_nat n1 (decide (m2 % 2 ^ v ≠ 0)) (N := A + m2 / 2 ^ v) (by omega) e h0
    refine Ev.congr (fun k => (if_pos (beq_self_eq_true n1)).trans (bind_eq a _)) ?_
    have key : finE (e - v) n1 (A * 2 ^ v) n1 m2 = sgn n1 (near (A + m2 / 2 ^ v) e (decide (m2 % 2 ^ v ≠ 0))) := by
      by_cases hv1 : v = 0
      · obtain ⟨q1, q2, q3, q4⟩ := hv0 hv1
        rw [q1, q2, q3, q4, finE_same _ _ (by omega), decide_eq_false (by simp)]
      · have hAb := hbig hv1
        have hne : A * 2 ^ v + m2 ≠ 0 := by
          have := Nat.mul_pos (show 0 < A by omega) hp
          omega
        have c := near_parts2 (A := A) (B := m2 / 2 ^ v) e hr (hblen _ (Nat.le_trans (show 41538374868278621028243970633760768 ≤ A by omega) (Nat.le_add_right _ _)))
        rw [← hm] at c
        rw [finE_same _ _ hne, c]
    rw [key]
    exact Ev.bind j (Ev.now _)
  refine Ev.congr (fun k => if_neg (fun hh => hn (eq_of_beq hh))) ?_
  by_cases hr0 : m2 % 2 ^ v = 0
  · refine Ev.congr (fun k => if_neg (by rw [decide_eq_false (fun hh => hh hr0)]; simp)) ?_
    rw [decide_eq_false (show ¬ m2 % 2 ^ v ≠ 0 from fun hh => hh hr0)]
    have hsc : finE (e - v) n1 (A * 2 ^ v) n2 m2 = finE e n1 A n2 (m2 / 2 ^ v) := by
      rw [hr0, Nat.add_zero] at hm
      have h3 := finE_scale e n1 n2 A (m2 / 2 ^ v) v
      rw [← hm] at h3
      exact h3
    rw [hsc]
    rcases Nat.lt_trichotomy A (m2 / 2 ^ v) with h | h | h
    · rw [finE_lt e hn h]; exact sum_j1_lt n1 n2 false hA2 (by omega) e h0 h
    · rw [← h, finE_eq e hn]; exact sum_j1_eq n1 n2 hA2 e
    · rw [finE_gt e hn h]; exact sum_j1_ge n1 n2 false hA2 (by omega) e h0 (Nat.le_of_lt h) (Or.inl (by omega))
  · have hv1 : v ≠ 0 := fun hh => hr0 (hv0 hh).1
    have hAb := hbig hv1
    have a := add_nat (A := m2 / 2 ^ v) (B := 1) (by omega) (by decide)
    have e1 : hiW 1 = 0 := by unfold hiW; rfl
    have e2 : loW 1 = 1 := by unfold loW; rfl
    rw [e1, e2] at a
    refine Ev.congr (fun k => (if_pos (decide_eq_true hr0)).trans (bind_eq a _)) ?_
    rw [decide_eq_true hr0]
    have hlt : m2 < A * 2 ^ v := by
      have h1 : 1 * m2 ≤ 1 * 9007199254740992 := Nat.mul_le_mul_left 1 (Nat.le_of_lt h2)
      have h3 := Nat.mul_le_mul_left A (show 1 ≤ 2 ^ v from hp)
      omega
    have c := near_less (A := A) (B := m2 / 2 ^ v) e hr0 hr (by omega) (hblen _ (by omega))
    rw [← hm] at c
    rw [finE_gt _ hn hlt, c]
    exact sum_j1_ge n1 n2 true hA2 (by omega) e h0 (by omega) (Or.inr rfl)
theorem sum_j0 (n1 n2 : Bool) (m1 m2 : Nat) (e1 e2 : Int) (h1 : m1 < 9007199254740992) (h2 : m2 < 9007199254740992) (he : -1074 ≤ e2) (hle : e2 ≤ e1) (hE : e1 ≤ 972) (hn : e1 = -1074 ∨ 4503599627370496 ≤ m1) (hz : m1 ≠ 0 ∨ m2 ≠ 0) :
    Ev (fun k => arith_sum.j0 k n1 (m1 : Int) e1 n2 (m2 : Int) e2) ((finE (-1074) n1 (m1 * 2 ^ (e1 + 1074).toNat) n2 (m2 * 2 ^ (e2 + 1074).toNat) : Nat) : Int) := by
  obtain ⟨d, hd⟩ : ∃ d : Nat, e1 - e2 = (d : Int) := ⟨(e1 - e2).toNat, by omega⟩
  obtain ⟨j, hj⟩ : ∃ j : Nat, e2 + 1074 = (j : Int) := ⟨(e2 + 1074).toNat, by omega⟩
  have hj1 : (e1 + 1074).toNat = d + j := by omega
  have hj2 : (e2 + 1074).toNat = j := by omega
  rw [hj1, hj2, Nat.pow_add, ← Nat.mul_assoc]
  have hee : (-1074 : Int) = e2 - j := by omega
  rw [hee, finE_scale]
  obtain ⟨u, hu⟩ : ∃ u, u = min d 64 := ⟨_, rfl⟩
  obtain ⟨v, hv⟩ : ∃ v, d = u + v := ⟨d - u, by omega⟩
  have w1 : wrap64 (e1 - e2) = (d : Int) := by rw [hd]; exact w64 (by omega) (by omega)
  have w2 : mn (d : Int) 64 = (u : Int) := by unfold mn; split <;> omega
  have w3 : wrap64 (e1 - (u : Int)) = e1 - u := w64 (by clear w1 w2; omega) (by clear w1 w2; omega)
  have w4 : wrap64 (e1 - u - e2) = (v : Int) := by rw [show e1 - (u : Int) - e2 = (v : Int) by clear w1 w2 w3; omega]; exact w64 (by clear w1 w2 w3; omega) (by clear w1 w2 w3; omega)
  have s := wshl_eq word_0 (word_nat (x := m1) (by clear w1 w2 w3 w4; omega)) (n := (u : Int)) (by clear w1 w2 w3 w4; omega)
  rw [two0, Int.toNat_natCast] at s
  have hA : m1 * 2 ^ u < 2 ^ 120 := by
    have h3 : 2 ^ u ≤ 2 ^ 64 := Nat.pow_le_pow_right (by decide) (by clear w1 w2 w3 w4; omega)
    have h4 : m1 * 2 ^ u ≤ 9007199254740992 * 2 ^ 64 := Nat.mul_le_mul (Nat.le_of_lt h1) h3
    exact Nat.lt_of_le_of_lt h4 (by decide)
  have hvA : v = 0 ∨ 2 ^ 116 ≤ m1 * 2 ^ u := by
    by_cases hv0 : v = 0
    · exact Or.inl hv0
    · right
      have hu64 : u = 64 := by clear w1 w2 w3 w4; omega
      have hm1 : 4503599627370496 ≤ m1 := hn.resolve_left (by clear w1 w2 w3 w4; omega)
      rw [hu64]
      exact Nat.le_trans (by decide) (Nat.mul_le_mul_right (2 ^ 64) hm1)
  have hz2 : m1 * 2 ^ u ≠ 0 ∨ m2 ≠ 0 := hz.imp (fun h => Nat.mul_ne_zero h (Nat.ne_of_gt (Nat.two_pow_pos u))) id
  have core := sum_core n1 n2 (m1 * 2 ^ u) m2 v (e1 - u) hA h2 (by clear w1 w2 w3 w4; omega) hvA (by clear w1 w2 w3 w4; omega) hz2
  have eD : m1 * 2 ^ d = m1 * 2 ^ u * 2 ^ v := by rw [hv, Nat.pow_add, Nat.mul_assoc]
  have eE : e1 - (u : Int) - (v : Int) = e2 := by clear w1 w2 w3 w4; omega
  rw [eE, ← eD] at core
  refine Ev.step (fun k => ?_) core
  simp only [arith_sum.j0]
  rw [w1, w2, w3, w4, bind_eq s]
/-- The magnitude of a finite number, in units of 2^-1074; its sign. -/
@[irreducible] def mag (x : Nat) : Nat := sM x * 2 ^ (sE x + 1074).toNat
@[irreducible] def neg (x : Nat) : Bool := decide ((x : Int) ≥ 9223372036854775808)
theorem parts_norm (x : Nat) (h : kd x < 3) : sE x = -1074 ∨ 4503599627370496 ≤ sM x := by
  have k := kd_cases x
  unfold sE sM
  by_cases h2 : kd x = 2
  · right; rw [if_pos h2]; omega
  · left; rw [if_neg h2, if_pos (by omega)]
theorem sum_ev (x y : Nat) (hx : x < 18446744073709551616) (hy : y < 18446744073709551616) (kx : kd x < 3) (ky : kd y < 3) (hz : ¬ (kd x = 0 ∧ kd y = 0)) :
    Ev (fun k => arith_sum.f k (x : Int) (y : Int)) ((finE (-1074) (neg x) (mag x) (neg y) (mag y) : Nat) : Int) := by
  have bx := sE_bounds x
  have bY := sE_bounds y
  have hz1 : sM x ≠ 0 ∨ sM y ≠ 0 := by
    have k1 := kd_cases x
    have k2 := kd_cases y
    unfold sM
    by_cases c1 : kd x = 0
    · right
      by_cases c2 : kd y = 2
      · rw [if_pos c2]; omega
      · rw [if_neg c2, if_pos (by omega)]; omega
    · left
      by_cases c2 : kd x = 2
      · rw [if_pos c2]; omega
      · rw [if_neg c2, if_pos (by omega)]; omega
  have sx := split_ev x hx
  have sy := split_ev y hy
  unfold arith_sum.f neg mag
  refine Ev.bind sx (Ev.bind sy ?_)
  by_cases h : sE x < sE y
  · refine Ev.congr (fun k => if_pos h) ?_
    rw [finE_comm]
    exact sum_j0 _ _ _ _ _ _ (sM_lt y) (sM_lt x) bx.1 (Int.le_of_lt h) bY.2 (parts_norm y ky) hz1.symm
  · refine Ev.congr (fun k => if_neg h) ?_
    exact sum_j0 _ _ _ _ _ _ (sM_lt x) (sM_lt y) bY.1 (Int.not_lt.1 h) bx.2 (parts_norm x kx) hz1
end Go.Proofs.Ytbejjlecpcphoaa.Q
