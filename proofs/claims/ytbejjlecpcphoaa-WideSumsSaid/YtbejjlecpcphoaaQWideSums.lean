/-
  WideSums: comparisons, sums, differences, products and lengths of package wide are the reference's. No condition.
-/
import Derived.Test.YtbejjlecpcphoaaPx36
import Derived.Test.YtbejjlecpcphoaaPx34
import Derived.Test.YtbejjlecpcphoaaPx33
import Derived.Test.YtbejjlecpcphoaaQ2
import Derived.Test.YtbejjlecpcphoaaQ4
import Derived.Test.YtbejjlecpcphoaaQ6a
import Derived.Test.YtbejjlecpcphoaaQShown2
namespace Go.Proofs.Ytbejjlecpcphoaa.Q
set_option linter.unusedVariables false
open Go.RowKit Go.Proofs.YtbejjlecpcphoaaW.PrintWords Go.Proofs.YtbejjlecpcphoaaW.PrintLast Go.Proofs.YtbejjlecpcphoaaW.PrintMore
open Go.Proofs.Ytbejjlecpcphoaa.P Go.Proofs.Ytbejjlecpcphoaa.LL Go.Proofs.Ytbejjlecpcphoaa.FM

theorem lnat_ev {a b : Int} (h1 : Word a) (h2 : Word b) : Ev (fun k => tabardlaw2_nat.f k a b) (limbs (two a b)) := by
  have h := nat_ev (a := 0) (by decide) (by decide) h1.lo h1.hi h2.lo h2.hi
  have e : b.toNat + 18446744073709551616 * a.toNat + 340282366920938463463374607431768211456 * (0 : Int).toNat = two a b := by
    unfold two; simp; omega
  rw [e] at h
  unfold tabardlaw2_nat.f
  exact Ev.bind h (Ev.now _)
theorem rnat_ev {a : Int} (h1 : Word a) : Ev (fun k => tabardref2_Nat.f k 0 0 a) (limbs a.toNat) := by
  have h := nat_ev (a := 0) (b := 0) (by decide) (by decide) (by decide) (by decide) h1.lo h1.hi
  have e : a.toNat + 18446744073709551616 * (0 : Int).toNat + 340282366920938463463374607431768211456 * (0 : Int).toNat = a.toNat := by simp
  rwa [e] at h
/-- A short list. -/
theorem limbs_short {n m : Nat} (h : n < 2 ^ (32 * m)) (hm : m < 1000000) : (limbs n).length < 1000000 := Nat.lt_of_le_of_lt (limbs_len_le h) hm
theorem p128 : (2 : Nat) ^ (32 * 4) = 340282366920938463463374607431768211456 := by decide
theorem short128 {n : Nat} (h : n < 340282366920938463463374607431768211456) : (limbs n).length < 1000000 := limbs_short (m := 4) (by rw [p128]; exact h) (by decide)
theorem short129 {n : Nat} (h : n < 340282366920938463463374607431768211456 + 340282366920938463463374607431768211456) : (limbs n).length < 1000000 := limbs_short (m := 5) (Nat.lt_trans h (by decide)) (by decide)
/-- is: the words are the number's. -/
theorem lis_ev {n : Nat} (h : n < 340282366920938463463374607431768211456) : Ev (fun k => tabardlaw2_is.f k (hiW n) (loW n) (limbs n)) true := by
  have p1 := part_ev (lb_limbs n) 1 (by decide)
  have p0 := part_ev (lb_limbs n) 0 (by decide)
  have l4 : (limbs n).length ≤ 4 := limbs_len_le (by rw [p128]; exact h)
  rw [val_limbs] at p1 p0
  have e1 : ((n / 2 ^ (64 * 1) % 18446744073709551616 : Nat) : Int) = hiW n := by
    unfold hiW; rw [Nat.mul_one, p64]
  have e0 : ((n / 2 ^ (64 * 0) % 18446744073709551616 : Nat) : Int) = loW n := by
    unfold loW; rw [Nat.mul_zero, Nat.pow_zero, Nat.div_one]
  rw [e1] at p1
  rw [e0] at p0
  unfold tabardlaw2_is.f
  refine Ev.bind p1 (Ev.congr (fun k => if_pos rfl) (Ev.bind p0 (Ev.congr (fun k => if_pos rfl) ?_)))
  rw [decide_eq_true (by omega)]
  exact Ev.now _
theorem end_lb : Lb [0, 0, 0, 0, 1] := by
  intro x hx
  simp only [List.mem_cons, List.not_mem_nil, or_false] at hx
  rcases hx with rfl | rfl | rfl | rfl | rfl <;> decide
theorem end_val : val [0, 0, 0, 0, 1] = 340282366920938463463374607431768211456 := by decide
theorem radd_ev {x y : Nat} (hx : x < 340282366920938463463374607431768211456) (hy : y < 340282366920938463463374607431768211456) :
    Ev (fun k => tabardref2_Add.f k (limbs x) (limbs y)) (limbs ((x + y) % 340282366920938463463374607431768211456), decide (340282366920938463463374607431768211456 ≤ x + y)) := by
  have h1 := plus_ev (lb_limbs x) (lb_limbs y) (short128 hx) (short128 hy)
  rw [val_limbs, val_limbs] at h1
  have hs : (limbs (x + y)).length < 1000000 := short129 (Nat.add_lt_add hx hy)
  have h2 := cmp_ev (lb_limbs (x + y)) end_lb hs (by decide)
  rw [val_limbs, end_val] at h2
  unfold tabardref2_Add.f
  refine Ev.bind h1 (Ev.congr (fun k => bind_eq (show tabardref2_End.f = some [0, 0, 0, 0, 1] from rfl) _) (Ev.bind h2 ?_))
  by_cases h : 340282366920938463463374607431768211456 ≤ x + y
  · have c : cmpN (x + y) 340282366920938463463374607431768211456 ≥ 0 := cmpN_ge h
    have h3 := less_ev (lb_limbs (x + y)) end_lb hs (by rw [val_limbs, end_val]; exact h)
    rw [val_limbs, end_val] at h3
    have e : (x + y) % 340282366920938463463374607431768211456 = x + y - 340282366920938463463374607431768211456 := by omega
    rw [e, decide_eq_true h]
    exact Ev.congr (fun k => if_pos c) (Ev.bind h3 (Ev.now _))
  · have c : ¬ cmpN (x + y) 340282366920938463463374607431768211456 ≥ 0 := cmpN_lt h
    have e : (x + y) % 340282366920938463463374607431768211456 = x + y := Nat.mod_eq_of_lt (Nat.lt_of_not_le h)
    rw [e, decide_eq_false h]
    exact Ev.congr (fun k => if_neg c) (Ev.now _)
theorem rsub_ev {x y : Nat} (hx : x < 340282366920938463463374607431768211456) (hy : y < 340282366920938463463374607431768211456) :
    Ev (fun k => tabardref2_Sub.f k (limbs x) (limbs y)) (limbs ((x + 340282366920938463463374607431768211456 - y) % 340282366920938463463374607431768211456), decide (x < y)) := by
  have h1 := cmp_ev (lb_limbs x) (lb_limbs y) (short128 hx) (short128 hy)
  rw [val_limbs, val_limbs] at h1
  unfold tabardref2_Sub.f
  refine Ev.bind h1 ?_
  by_cases h : x < y
  · have c : cmpN x y < 0 := cmpN_neg h
    have h2 := plus_ev (lb_limbs x) end_lb (short128 hx) (by decide)
    rw [val_limbs, end_val] at h2
    have hs : (limbs (x + 340282366920938463463374607431768211456)).length < 1000000 := short129 (by omega)
    have h3 := less_ev (lb_limbs (x + 340282366920938463463374607431768211456)) (lb_limbs y) hs (by rw [val_limbs, val_limbs]; omega)
    rw [val_limbs, val_limbs] at h3
    have e : (x + 340282366920938463463374607431768211456 - y) % 340282366920938463463374607431768211456 = x + 340282366920938463463374607431768211456 - y := by omega
    rw [e, decide_eq_true h]
    exact Ev.congr (fun k => if_pos c) (Ev.congr (fun k => bind_eq (show tabardref2_End.f = some [0, 0, 0, 0, 1] from rfl) _) (Ev.bind h2 (Ev.bind h3 (Ev.now _))))
  · have c : ¬ cmpN x y < 0 := cmpN_nneg h
    have h3 := less_ev (lb_limbs x) (lb_limbs y) (short128 hx) (by rw [val_limbs, val_limbs]; omega)
    rw [val_limbs, val_limbs] at h3
    have e : (x + 340282366920938463463374607431768211456 - y) % 340282366920938463463374607431768211456 = x - y := by omega
    rw [e, decide_eq_false h]
    exact Ev.congr (fun k => if_neg c) (Ev.bind h3 (Ev.now _))
theorem hiW_mod {n m : Nat} (h : n % 340282366920938463463374607431768211456 = m) : hiW n = hiW m ∧ loW n = loW m := by
  unfold hiW loW; omega

theorem WideSums (a b c d : Int) (wa : (Lit.int .u64 a).wf = true) (wb : (Lit.int .u64 b).wf = true) (wc : (Lit.int .u64 c).wf = true) (wd : (Lit.int .u64 d).wf = true) : ∃ k, tabardlaw2_WideSums.f k a b c d = some true := by
  have h1 := Word.of_wf wa
  have h2 := Word.of_wf wb
  have h3 := Word.of_wf wc
  have h4 := Word.of_wf wd
  have hx := two_lt h1 h2
  have hy := two_lt h3 h4
  have a1 := add_eq h1 h2 h3 h4
  have a2 := radd_ev hx hy
  have s1 := sub_eq h1 h2 h3 h4
  have s2 := rsub_ev hx hy
  have m1 := mul_eq h1 h4
  have n1 := rnat_ev h1
  have n2 := rnat_ev h4
  have hm : a.toNat * d.toNat < 340282366920938463463374607431768211456 := by
    have u1 := h1.hi; have u2 := h4.hi; have u3 := h1.lo; have u4 := h4.lo
    exact Nat.lt_of_le_of_lt (Nat.mul_le_mul (show a.toNat ≤ 18446744073709551615 by omega) (show d.toNat ≤ 18446744073709551615 by omega)) (by decide)
  have t1 := rtimes_ev (lb_limbs a.toNat) (lb_limbs d.toNat) (limbs_short (m := 2) (by have := h1.hi; have := h1.lo; exact Nat.lt_of_lt_of_le (show a.toNat < 18446744073709551616 by omega) (by decide)) (by decide)) (limbs_short (m := 2) (by have := h4.hi; have := h4.lo; exact Nat.lt_of_lt_of_le (show d.toNat < 18446744073709551616 by omega) (by decide)) (by decide))
  rw [val_limbs, val_limbs] at t1
  have c1 := cmp_eq h1 h2 h3 h4
  have c2 := cmp_ev (lb_limbs (two a b)) (lb_limbs (two c d)) (short128 hx) (short128 hy)
  rw [val_limbs, val_limbs] at c2
  have l1 := wlen_ev h1 h2
  have l2 := len_ev (lb_limbs (two a b)) (short128 hx)
  rw [val_limbs] at l2
  have i1 := lis_ev (n := (two a b + two c d) % 340282366920938463463374607431768211456) (Nat.mod_lt _ (by decide))
  have i2 := lis_ev (n := (two a b + 340282366920938463463374607431768211456 - two c d) % 340282366920938463463374607431768211456) (Nat.mod_lt _ (by decide))
  have i3 := lis_ev hm
  obtain ⟨e1, e2⟩ := hiW_mod (n := two a b + two c d) rfl
  obtain ⟨e3, e4⟩ := hiW_mod (n := two a b + 340282366920938463463374607431768211456 - two c d) rfl
  rw [← e1, ← e2] at i1
  rw [← e3, ← e4] at i2
  apply Ev.rounds
  unfold tabardlaw2_WideSums.f
  refine Ev.bind shown2 (Ev.congr (fun k => if_pos rfl) (Ev.bind (lnat_ev h1 h2) (Ev.bind (lnat_ev h3 h4) ?_)))
  refine Ev.congr (fun k => bind_eq a1 _) (Ev.bind a2 (Ev.congr (fun k => bind_eq s1 _) (Ev.bind s2 (Ev.bind i1 (Ev.bind i2 ?_)))))
  refine Ev.congr (fun k => bind_eq m1 _) (Ev.bind n1 (Ev.bind n2 (Ev.bind t1 (Ev.bind i3 ?_))))
  refine Ev.congr (fun k => bind_eq c1 _) (Ev.bind c2 (Ev.congr (fun k => if_pos rfl) (Ev.congr (fun k => if_pos rfl) (Ev.congr (fun k => if_pos (beq_self_eq_true _)) ?_))))
  refine Ev.congr (fun k => if_pos rfl) (Ev.congr (fun k => if_pos (beq_self_eq_true _)) (Ev.congr (fun k => if_pos rfl) (Ev.bind l1 (Ev.bind l2 ?_))))
  exact Ev.congr (fun k => congrArg some (beq_self_eq_true _)) (Ev.now _)
end Go.Proofs.Ytbejjlecpcphoaa.Q
