/-
  ArithSums: a list is added up from the front. No condition.
-/
import Derived.Test.YtbejjlecpcphoaaPx59
import Derived.Test.YtbejjlecpcphoaaPx49
import Derived.Test.YtbejjlecpcphoaaPx58
import Derived.Test.YtbejjlecpcphoaaQATr
import Derived.Test.YtbejjlecpcphoaaQShown4
namespace Go.Proofs.Ytbejjlecpcphoaa.Q
set_option linter.unusedVariables false
open Go.RowKit Go.Proofs.YtbejjlecpcphoaaW.PrintWords Go.Proofs.YtbejjlecpcphoaaW.PrintLast Go.Proofs.YtbejjlecpcphoaaW.PrintMore
open Go.Proofs.Ytbejjlecpcphoaa.P Go.Proofs.Ytbejjlecpcphoaa.LL Go.Proofs.Ytbejjlecpcphoaa.FM

/-- The sum of the first i. -/
def sumTo (l : List Int) : Nat → Nat
  | 0 => 0
  | i + 1 => addR (sumTo l i) (rd l (i : Int)).toNat
theorem rd_word {l : List Int} (hl : ∀ x ∈ l, Word x) (i : Nat) (hi : i < l.length) : ∃ y : Nat, rd l (i : Int) = (y : Int) ∧ y < 18446744073709551616 := by
  have er : rd l (i : Int) = l[i] := by unfold rd; rw [Int.toNat_natCast, List.getD_eq_getElem?_getD, List.getElem?_eq_getElem hi]; rfl
  have hw := hl l[i] (List.getElem_mem hi)
  have h1 := hw.lo; have h2 := hw.hi
  exact ⟨l[i].toNat, by rw [er]; omega, by omega⟩
theorem sumTo_lt {l : List Int} (hl : ∀ x ∈ l, Word x) : ∀ i, i ≤ l.length → sumTo l i < 18446744073709551616
  | 0, _ => by rw [sumTo]; decide
  | i + 1, h => by
    obtain ⟨y, e, hy⟩ := rd_word hl i (by omega)
    rw [sumTo, e, Int.toNat_natCast]
    exact addR_lt (sumTo_lt hl i (by omega)) hy
theorem step_add {l : List Int} (hl : ∀ x ∈ l, Word x) (i : Nat) (hi : i < l.length) : Ev (fun k => arith_Add.f k ((sumTo l i : Nat) : Int) (rd l (i : Int))) ((sumTo l (i + 1) : Nat) : Int) := by
  obtain ⟨y, e, hy⟩ := rd_word hl i hi
  rw [sumTo, e, Int.toNat_natCast]
  exact add_ev _ y (sumTo_lt hl i (by omega)) hy
theorem step_radd {l : List Int} (hl : ∀ x ∈ l, Word x) (i : Nat) (hi : i < l.length) : Ev (fun k => tabardref4_Add.f k ((sumTo l i : Nat) : Int) (rd l (i : Int))) ((sumTo l (i + 1) : Nat) : Int) := by
  obtain ⟨y, e, hy⟩ := rd_word hl i hi
  rw [sumTo, e, Int.toNat_natCast]
  exact radd_ev _ y (sumTo_lt hl i (by omega)) hy
theorem asum_l0 {l : List Int} (hl : ∀ x ∈ l, Word x) (hlen : l.length < 1000000) (d : Nat) : ∀ i : Nat, i + d = l.length → Ev (fun k => arith_Sum.l0 k ((sumTo l i : Nat) : Int) l (l.length : Int) (i : Int)) ((sumTo l l.length : Nat) : Int) := by
  induction d with
  | zero =>
    intro i hi
    have : i = l.length := by omega
    rw [this]
    refine Ev.step (f := fun _ => some ((sumTo l l.length : Nat) : Int)) (fun k => ?_) (Ev.now _)
    simp only [arith_Sum.l0]; rw [if_neg (by omega)]
  | succ d ih =>
    intro i hi
    have e2 : wrap64 ((i : Int) + 1) = ((i + 1 : Nat) : Int) := by rw [w64 (by omega) (by omega)]; rfl
    have f1 : (i : Int) < (l.length : Int) := by clear e2; omega
    refine Ev.step (f := fun k => (arith_Add.f k ((sumTo l i : Nat) : Int) (rd l (i : Int))).bind fun t834 => (arith_Sum.l0 k t834 l (l.length : Int) ((i + 1 : Nat) : Int))) (fun k => ?_) (Ev.bind (step_add hl i (by clear e2; omega)) (ih (i + 1) (by clear e2; omega)))
    simp only [arith_Sum.l0]
    rw [if_pos f1, if_pos (Int.natCast_nonneg i), if_pos f1, e2]
theorem rsum_l0 {l : List Int} (hl : ∀ x ∈ l, Word x) (hlen : l.length < 1000000) (d : Nat) : ∀ i : Nat, i + d = l.length → Ev (fun k => tabardref4_Sum.l0 k l ((sumTo l i : Nat) : Int) (i : Int)) ((sumTo l l.length : Nat) : Int) := by
  induction d with
  | zero =>
    intro i hi
    have : i = l.length := by omega
    rw [this]
    refine Ev.step (f := fun _ => some ((sumTo l l.length : Nat) : Int)) (fun k => ?_) (Ev.now _)
    simp only [tabardref4_Sum.l0]; rw [if_neg (by omega)]
  | succ d ih =>
    intro i hi
    have e2 : wrap64 ((i : Int) + 1) = ((i + 1 : Nat) : Int) := by rw [w64 (by omega) (by omega)]; rfl
    have f1 : (i : Int) < (l.length : Int) := by clear e2; omega
    refine Ev.step (f := fun k => (tabardref4_Add.f k ((sumTo l i : Nat) : Int) (rd l (i : Int))).bind fun t943 => (tabardref4_Sum.l0 k l t943 ((i + 1 : Nat) : Int))) (fun k => ?_) (Ev.bind (step_radd hl i (by clear e2; omega)) (ih (i + 1) (by clear e2; omega)))
    simp only [tabardref4_Sum.l0]
    rw [if_pos f1, if_pos (Int.natCast_nonneg i), e2]
theorem sums_l0 {l : List Int} (hl : ∀ x ∈ l, Word x) (hlen : l.length < 1000000) (d : Nat) : ∀ i : Nat, i + d = l.length → Ev (fun k => tabardlaw4_ArithSums.l0 k l ((sumTo l i : Nat) : Int) (i : Int)) true := by
  induction d with
  | zero =>
    intro i hi
    have : i = l.length := by omega
    rw [this]
    have a : Ev (fun k => arith_Sum.f k l) ((sumTo l l.length : Nat) : Int) := by
      unfold arith_Sum.f; exact asum_l0 hl hlen l.length 0 (by omega)
    have r : Ev (fun k => tabardref4_Sum.f k l) ((sumTo l l.length : Nat) : Int) := by
      unfold tabardref4_Sum.f; exact rsum_l0 hl hlen l.length 0 (by omega)
    refine Ev.step (f := fun k => (arith_Sum.f k l).bind fun t947 => ((tabardref4_Sum.f k l).bind fun t948 => (if t947 = t948 then ((arith_Sum.f k l).bind fun t949 => (some (t949 == ((sumTo l l.length : Nat) : Int)))) else (none)))) (fun k => ?_) (Ev.bind a (Ev.bind r (Ev.congr (fun k => if_pos rfl) (Ev.bind a (Ev.congr (fun k => congrArg some (beq_self_eq_true _)) (Ev.now _))))))
    simp only [tabardlaw4_ArithSums.l0]; rw [if_neg (by omega)]
  | succ d ih =>
    intro i hi
    have e2 : wrap64 ((i : Int) + 1) = ((i + 1 : Nat) : Int) := by rw [w64 (by omega) (by omega)]; rfl
    have f1 : (i : Int) < (l.length : Int) := by clear e2; omega
    refine Ev.step (f := fun k => (arith_Add.f k ((sumTo l i : Nat) : Int) (rd l (i : Int))).bind fun t946 => (tabardlaw4_ArithSums.l0 k l t946 ((i + 1 : Nat) : Int))) (fun k => ?_) (Ev.bind (step_add hl i (by clear e2; omega)) (ih (i + 1) (by clear e2; omega)))
    simp only [tabardlaw4_ArithSums.l0]
    rw [if_pos f1, if_pos (Int.natCast_nonneg i), e2]
theorem ArithSums : tabardlaw4_ArithSums.Pure := by
  intro l _ _ hw
  have hl : ∀ x ∈ l, Word x := fun x hx => Word.of_wf (hw x hx)
  apply Ev.rounds
  unfold tabardlaw4_ArithSums.f
  refine Ev.bind shown4 (Ev.congr (fun k => if_pos rfl) ?_)
  by_cases h : (l.length : Int) > 200
  · rw [decide_eq_true h]
    refine Ev.step (f := fun _ => some true) (fun k => ?_) (Ev.now _)
    simp only [tabardlaw4_ArithSums.j0]; rw [if_pos trivial]
  · rw [decide_eq_false h]
    have s := sums_l0 hl (by omega) l.length 0 (by omega)
    refine Ev.step (fun k => ?_) s
    simp only [tabardlaw4_ArithSums.j0]; rw [if_neg (by simp)]; rfl
end Go.Proofs.Ytbejjlecpcphoaa.Q
