/-
  Mul of package arith: the number nearest to the exact product.
-/
import Derived.Test.YtbejjlecpcphoaaPx49
import Derived.Test.YtbejjlecpcphoaaPx48
import Derived.Test.YtbejjlecpcphoaaQAT
namespace Go.Proofs.Ytbejjlecpcphoaa.Q
set_option linter.unusedVariables false
open Go.RowKit Go.Proofs.YtbejjlecpcphoaaW.PrintWords Go.Proofs.YtbejjlecpcphoaaW.PrintLast Go.Proofs.YtbejjlecpcphoaaW.PrintMore
open Go.Proofs.Ytbejjlecpcphoaa.P Go.Proofs.Ytbejjlecpcphoaa.LL Go.Proofs.Ytbejjlecpcphoaa.FM

/-- What a product comes to. -/
@[irreducible] def mulR (x y : Nat) : Nat :=
  if kd x = 4 ∨ kd y = 4 ∨ kd x = 3 ∧ kd y = 0 ∨ kd x = 0 ∧ kd y = 3 then 9221120237041090560
  else if kd x = 3 ∨ kd y = 3 then sgn (neg x != neg y) 9218868437227405312 else sgn (neg x != neg y) (near (sM x * sM y) (sE x + sE y) false)
theorem mulR_nan {x y : Nat} (h : kd x = 4 ∨ kd y = 4 ∨ kd x = 3 ∧ kd y = 0 ∨ kd x = 0 ∧ kd y = 3) : mulR x y = 9221120237041090560 := by unfold mulR; rw [if_pos h]
theorem mulR_inf {x y : Nat} (h1 : kd x < 4) (h2 : kd y < 4) (h : kd x = 3 ∧ kd y ≠ 0 ∨ kd x ≠ 0 ∧ kd y = 3) : mulR x y = sgn (neg x != neg y) 9218868437227405312 := by
  unfold mulR; rw [if_neg (by omega), if_pos (by omega)]
theorem mulR_fin {x y : Nat} (h1 : kd x < 3) (h2 : kd y < 3) : mulR x y = sgn (neg x != neg y) (near (sM x * sM y) (sE x + sE y) false) := by
  unfold mulR; rw [if_neg (by omega), if_neg (by omega)]
theorem muls_ev (x y : Nat) (hx : x < 18446744073709551616) (hy : y < 18446744073709551616) : ∃ t : Int, Ev (fun k => arith_muls.f k (x : Int) (y : Int)) t ∧
    (t = 1 ∧ (kd x = 4 ∨ kd y = 4 ∨ kd x = 3 ∧ kd y = 0 ∨ kd x = 0 ∧ kd y = 3) ∨ t = 5 ∧ kd x < 4 ∧ kd y < 4 ∧ (kd x = 3 ∧ kd y ≠ 0 ∨ kd x ≠ 0 ∧ kd y = 3) ∨ t ≠ 1 ∧ t ≠ 5 ∧ kd x < 3 ∧ kd y < 3) := by
  obtain ⟨i, hi, ci⟩ := akind_ev x hx
  obtain ⟨j, hj, cj⟩ := akind_ev y hy
  unfold arith_muls.f
  generalize kd x = K at *
  generalize kd y = J at *
  have tab : ∀ t : Int, arith_muls.tab i j = some t → Ev (fun k => (arith_kind.f k (x : Int)).bind fun i => (arith_kind.f k (y : Int)).bind fun j => arith_muls.tab i j) t := fun t ht => Ev.bind hi (Ev.bind hj (Ev.congr (fun _ => ht) (Ev.now _)))
  rcases ci with ⟨rfl, c⟩ | ⟨rfl, c⟩ | ⟨rfl, c⟩ | ⟨rfl, c⟩ <;> rcases cj with ⟨rfl, d⟩ | ⟨rfl, d⟩ | ⟨rfl, d⟩ | ⟨rfl, d⟩ <;>
    first
    | exact ⟨0, tab 0 (by decide), by omega⟩
    | exact ⟨1, tab 1 (by decide), by omega⟩
    | exact ⟨5, tab 5 (by decide), by omega⟩
    | exact ⟨6, tab 6 (by decide), by omega⟩
theorem top_ne (x y : Nat) (hx : x < 18446744073709551616) (hy : y < 18446744073709551616) : (((x : Int) / 9223372036854775808) != ((y : Int) / 9223372036854775808)) = (neg x != neg y) := by
  have e : ∀ z : Nat, z < 18446744073709551616 → (neg z = true ∧ (z : Int) / 9223372036854775808 = 1 ∨ neg z = false ∧ (z : Int) / 9223372036854775808 = 0) := fun z hz => by
    unfold neg
    by_cases h : (z : Int) ≥ 9223372036854775808
    · left; exact ⟨decide_eq_true h, by omega⟩
    · right; exact ⟨decide_eq_false h, by omega⟩
  rcases e x hx with ⟨a, b⟩ | ⟨a, b⟩ <;> rcases e y hy with ⟨c, d⟩ | ⟨c, d⟩ <;> rw [a, b, c, d] <;> rfl
theorem mul_ev (x y : Nat) (hx : x < 18446744073709551616) (hy : y < 18446744073709551616) : Ev (fun k => arith_Mul.f k (x : Int) (y : Int)) ((mulR x y : Nat) : Int) := by
  obtain ⟨t, ht, ct⟩ := muls_ev x y hx hy
  have tn := top_ne x y hx hy
  unfold arith_Mul.f
  refine Ev.bind ht ?_
  rcases ct with ⟨rfl, c⟩ | ⟨rfl, c1, c2, c⟩ | ⟨c1, c2, c3, c4⟩
  · rw [mulR_nan c]; exact Ev.congr (fun k => if_pos rfl) (Ev.now _)
  · rw [mulR_inf c1 c2 c]
    refine Ev.congr (fun k => (if_neg (by decide)).trans (if_pos rfl)) ?_
    by_cases h : (x : Int) / 9223372036854775808 = (y : Int) / 9223372036854775808
    · have : (neg x != neg y) = false := by rw [← tn]; exact bne_eq_false_iff_eq.2 h
      rw [this, sgn_false]
      exact Ev.congr (fun k => if_pos h) (Ev.now _)
    · have : (neg x != neg y) = true := by rw [← tn]; exact bne_iff_ne.2 h
      rw [this, sgn_true]
      exact Ev.congr (fun k => if_neg h) (Ev.now _)
  · rw [mulR_fin c3 c4]
    have m1 := sM_lt x
    have m2 := sM_lt y
    have b1 := sE_bounds x
    have b2 := sE_bounds y
    have w : wrap64 (sE x + sE y) = sE x + sE y := w64 (by omega) (by omega)
    have hlt : sM x * sM y < 340282366920938463463374607431768211456 := Nat.lt_of_le_of_lt (Nat.mul_le_mul (Nat.le_of_lt m1) (Nat.le_of_lt m2)) (by decide)
    have m := mul_eq (word_nat (x := sM x) (by clear w; omega)) (word_nat (x := sM y) (by clear w; omega))
    rw [Int.toNat_natCast, Int.toNat_natCast] at m
    have j := join_nat (neg x != neg y) false hlt (sE x + sE y) (by clear w; omega)
    refine Ev.congr (fun k => (if_neg c1).trans (if_neg c2)) (Ev.bind (split_ev x hx) (Ev.bind (split_ev y hy) (Ev.congr (fun k => bind_eq m _) ?_)))
    rw [tn, w]
    exact Ev.bind j (Ev.now _)
end Go.Proofs.Ytbejjlecpcphoaa.Q
