/-
  Add and Sub of package arith: the number nearest to the exact sum.
-/
import Derived.Test.YtbejjlecpcphoaaPx47
import Derived.Test.YtbejjlecpcphoaaPx45
import Derived.Test.YtbejjlecpcphoaaPx44
import Derived.Test.YtbejjlecpcphoaaQAS
namespace Go.Proofs.Ytbejjlecpcphoaa.Q
set_option linter.unusedVariables false
open Go.RowKit Go.Proofs.YtbejjlecpcphoaaW.PrintWords Go.Proofs.YtbejjlecpcphoaaW.PrintLast Go.Proofs.YtbejjlecpcphoaaW.PrintMore
open Go.Proofs.Ytbejjlecpcphoaa.P Go.Proofs.Ytbejjlecpcphoaa.LL Go.Proofs.Ytbejjlecpcphoaa.FM

/-- What a sum comes to. -/
@[irreducible] def addR (x y : Nat) : Nat :=
  if kd x = 4 ∨ kd y = 4 then 9221120237041090560 else if kd x = 3 then (if kd y = 3 ∧ x ≠ y then 9221120237041090560 else x)
  else if kd y = 3 then y else if kd x = 0 ∧ kd y = 0 then (if x = y then x else 0) else finE (-1074) (neg x) (mag x) (neg y) (mag y)
theorem addR_nan {x y : Nat} (h : kd x = 4 ∨ kd y = 4) : addR x y = 9221120237041090560 := by unfold addR; rw [if_pos h]
theorem addR_inf2 {x y : Nat} (h1 : kd x = 3) (h2 : kd y = 3) (h : x ≠ y) : addR x y = 9221120237041090560 := by
  unfold addR; rw [if_neg (by omega), if_pos h1, if_pos ⟨h2, h⟩]
theorem addR_inf {x y : Nat} (h1 : kd x = 3) (h2 : kd y < 3 ∨ kd y = 3 ∧ x = y) : addR x y = x := by
  unfold addR; rw [if_neg (by omega), if_pos h1, if_neg (by rintro ⟨a, b⟩; rcases h2 with h2 | h2; omega; exact b h2.2)]
theorem addR_other {x y : Nat} (h1 : kd x < 3) (h2 : kd y = 3) : addR x y = y := by
  unfold addR; rw [if_neg (by omega), if_neg (by omega), if_pos h2]
theorem addR_zeros {x y : Nat} (h1 : kd x = 0) (h2 : kd y = 0) : addR x y = if x = y then x else 0 := by
  unfold addR; rw [if_neg (by omega), if_neg (by omega), if_neg (by omega), if_pos ⟨h1, h2⟩]
theorem addR_fin {x y : Nat} (h1 : kd x < 3) (h2 : kd y < 3) (h : ¬ (kd x = 0 ∧ kd y = 0)) : addR x y = finE (-1074) (neg x) (mag x) (neg y) (mag y) := by
  unfold addR; rw [if_neg (by omega), if_neg (by omega), if_neg (by omega), if_neg h]
theorem kd_range (x : Nat) : 0 ≤ kd x ∧ kd x ≤ 4 := by have := kd_cases x; omega
theorem akind_ev (x : Nat) (h : x < 18446744073709551616) : ∃ i : Int, Ev (fun k => arith_kind.f k (x : Int)) i ∧ (i = 0 ∧ kd x = 0 ∨ i = 1 ∧ 1 ≤ kd x ∧ kd x ≤ 2 ∨ i = 2 ∧ kd x = 3 ∨ i = 3 ∧ kd x = 4) := by
  have hk := kind_ev x h
  have hr := kd_range x
  unfold arith_kind.f
  generalize kd x = K at *
  rcases (show K = 0 ∨ K = 1 ∨ K = 2 ∨ K = 3 ∨ K = 4 by omega) with rfl | rfl | rfl | rfl | rfl
  · exact ⟨0, Ev.bind hk (Ev.congr (fun _ => by decide) (Ev.now _)), by omega⟩
  · exact ⟨1, Ev.bind hk (Ev.congr (fun _ => by decide) (Ev.now _)), by omega⟩
  · exact ⟨1, Ev.bind hk (Ev.congr (fun _ => by decide) (Ev.now _)), by omega⟩
  · exact ⟨2, Ev.bind hk (Ev.congr (fun _ => by decide) (Ev.now _)), by omega⟩
  · exact ⟨3, Ev.bind hk (Ev.congr (fun _ => by decide) (Ev.now _)), by omega⟩
theorem adds_ev (x y : Nat) (hx : x < 18446744073709551616) (hy : y < 18446744073709551616) : ∃ t : Int, Ev (fun k => arith_adds.f k (x : Int) (y : Int)) t ∧
    (t = 1 ∧ (kd x = 4 ∨ kd y = 4) ∨ t = 2 ∧ kd x = 3 ∧ kd y < 3 ∨ t = 3 ∧ kd x < 3 ∧ kd y = 3 ∨ t = 4 ∧ (kd x = 3 ∧ kd y = 3 ∨ kd x = 0 ∧ kd y = 0) ∨ t = 0 ∧ kd x < 3 ∧ kd y < 3 ∧ ¬ (kd x = 0 ∧ kd y = 0)) := by
  obtain ⟨i, hi, ci⟩ := akind_ev x hx
  obtain ⟨j, hj, cj⟩ := akind_ev y hy
  unfold arith_adds.f
  generalize kd x = K at *
  generalize kd y = J at *
  have tab : ∀ t : Int, arith_adds.tab i j = some t → Ev (fun k => (arith_kind.f k (x : Int)).bind fun i => (arith_kind.f k (y : Int)).bind fun j => arith_adds.tab i j) t := fun t ht => Ev.bind hi (Ev.bind hj (Ev.congr (fun _ => ht) (Ev.now _)))
  rcases ci with ⟨rfl, c⟩ | ⟨rfl, c⟩ | ⟨rfl, c⟩ | ⟨rfl, c⟩ <;> rcases cj with ⟨rfl, d⟩ | ⟨rfl, d⟩ | ⟨rfl, d⟩ | ⟨rfl, d⟩ <;>
    first
    | exact ⟨0, tab 0 (by decide), by omega⟩
    | exact ⟨1, tab 1 (by decide), by omega⟩
    | exact ⟨2, tab 2 (by decide), by omega⟩
    | exact ⟨3, tab 3 (by decide), by omega⟩
    | exact ⟨4, tab 4 (by decide), by omega⟩
theorem nan_cast : (9221120237041090560 : Int) = ((9221120237041090560 : Nat) : Int) := rfl
theorem add_ev (x y : Nat) (hx : x < 18446744073709551616) (hy : y < 18446744073709551616) : Ev (fun k => arith_Add.f k (x : Int) (y : Int)) ((addR x y : Nat) : Int) := by
  obtain ⟨t, ht, ct⟩ := adds_ev x y hx hy
  unfold arith_Add.f
  refine Ev.bind ht ?_
  rcases ct with ⟨rfl, c⟩ | ⟨rfl, c⟩ | ⟨rfl, c⟩ | ⟨rfl, c⟩ | ⟨rfl, c⟩
  · rw [addR_nan c]; exact Ev.congr (fun k => if_pos rfl) (Ev.now _)
  · rw [addR_inf c.1 (Or.inl c.2)]
    exact Ev.congr (fun k => (if_neg (by decide)).trans (if_pos rfl)) (Ev.now _)
  · rw [addR_other c.1 c.2]
    exact Ev.congr (fun k => (if_neg (by decide)).trans ((if_neg (by decide)).trans (if_pos rfl))) (Ev.now _)
  · refine Ev.congr (fun k => (if_neg (by decide)).trans ((if_neg (by decide)).trans ((if_neg (by decide)).trans (if_pos rfl)))) ?_
    by_cases hxy : x = y
    · have : addR x y = x := by
        rcases c with c | c
        · exact addR_inf c.1 (Or.inr ⟨c.2, hxy⟩)
        · rw [addR_zeros c.1 c.2, if_pos hxy]
      rw [this]
      exact Ev.congr (fun k => if_pos (by rw [hxy])) (Ev.now _)
    · refine Ev.congr (fun k => if_neg (by omega)) (Ev.bind (kind_ev x hx) ?_)
      rcases c with c | c
      · rw [addR_inf2 c.1 c.2 hxy]
        exact Ev.congr (fun k => if_pos c.1) (Ev.now _)
      · rw [addR_zeros c.1 c.2, if_neg hxy]
        exact Ev.congr (fun k => if_neg (by omega)) (Ev.now _)
  · rw [addR_fin c.1 c.2.1 c.2.2]
    refine Ev.congr (fun k => (if_neg (by decide)).trans ((if_neg (by decide)).trans ((if_neg (by decide)).trans (if_neg (by decide))))) ?_
    exact Ev.bind (sum_ev x y hx hy c.1 c.2.1 c.2.2) (Ev.now _)
theorem finE_lt64 (e : Int) (n1 n2 : Bool) (X Y : Nat) : finE e n1 X n2 Y < 18446744073709551616 := by
  have s : ∀ (b : Bool) (N : Nat), sgn b (near N e false) < 18446744073709551616 := fun b N => by
    have := near_le N e false
    cases b with
    | true => rw [sgn_true]; omega
    | false => rw [sgn_false]; omega
  unfold finE
  split
  · split
    · decide
    · exact s _ _
  · split
    · decide
    · split
      · exact s _ _
      · exact s _ _
theorem addR_lt {x y : Nat} (hx : x < 18446744073709551616) (hy : y < 18446744073709551616) : addR x y < 18446744073709551616 := by
  have := finE_lt64 (-1074) (neg x) (neg y) (mag x) (mag y)
  unfold addR
  split
  · decide
  · split
    · split
      · decide
      · exact hx
    · split
      · exact hy
      · split
        · split
          · exact hx
          · decide
        · exact this
theorem asub_ev (x y : Nat) (hx : x < 18446744073709551616) (hy : y < 18446744073709551616) : Ev (fun k => arith_Sub.f k (x : Int) (y : Int)) ((addR x (ngt y) : Nat) : Int) := by
  unfold arith_Sub.f
  exact Ev.bind (neg_ev y hy) (Ev.bind (add_ev x (ngt y) hx (ngt_lt y)) (Ev.now _))
end Go.Proofs.Ytbejjlecpcphoaa.Q
