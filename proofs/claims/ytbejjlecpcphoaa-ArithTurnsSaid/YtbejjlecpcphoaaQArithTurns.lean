/-
  ArithTurns: sums and products go either way round. No condition.
-/
import Derived.Test.YtbejjlecpcphoaaPx60
import Derived.Test.YtbejjlecpcphoaaQAX
import Derived.Test.YtbejjlecpcphoaaQF2
import Derived.Test.YtbejjlecpcphoaaQShown4
namespace Go.Proofs.Ytbejjlecpcphoaa.Q
set_option linter.unusedVariables false
open Go.RowKit Go.Proofs.YtbejjlecpcphoaaW.PrintWords Go.Proofs.YtbejjlecpcphoaaW.PrintLast Go.Proofs.YtbejjlecpcphoaaW.PrintMore
open Go.Proofs.Ytbejjlecpcphoaa.P Go.Proofs.Ytbejjlecpcphoaa.LL Go.Proofs.Ytbejjlecpcphoaa.FM

theorem mulR_lt {x y : Nat} : mulR x y < 18446744073709551616 := by
  have s : ∀ (b : Bool) (N : Nat), N ≤ 9218868437227405312 → sgn b N < 18446744073709551616 := fun b N hN => by
    cases b with
    | true => rw [sgn_true]; omega
    | false => rw [sgn_false]; omega
  unfold mulR
  split
  · decide
  · split
    · exact s _ _ (Nat.le_refl _)
    · exact s _ _ (near_le _ _ _)
theorem ArithTurns (a b : Int) (wa : (Lit.int .u64 a).wf = true) (wb : (Lit.int .u64 b).wf = true) : ∃ k, tabardlaw4_ArithTurns.f k a b = some true := by
  have h1 := Word.of_wf wa
  have h2 := Word.of_wf wb
  obtain ⟨x, rfl⟩ := Int.eq_ofNat_of_zero_le h1.lo
  obtain ⟨y, rfl⟩ := Int.eq_ofNat_of_zero_le h2.lo
  have hx : x < 18446744073709551616 := by have := h1.hi; omega
  have hy : y < 18446744073709551616 := by have := h2.hi; omega
  have a2 := add_ev y x hy hx
  have m2 := mul_ev y x hy hx
  have m3 := mul_ev (ngt x) y (ngt_lt x) hy
  rw [addR_comm] at a2
  rw [mulR_comm] at m2
  rw [mulR_ngt hx] at m3
  have st := sub_turn hx hy
  apply Ev.rounds
  unfold tabardlaw4_ArithTurns.f
  refine Ev.bind shown4 (Ev.congr (fun k => if_pos rfl) (Ev.bind (add_ev x y hx hy) (Ev.bind a2 (Ev.congr (fun k => if_pos rfl) (Ev.bind (mul_ev x y hx hy) (Ev.bind m2 (Ev.congr (fun k => if_pos rfl) ?_)))))))
  refine Ev.bind (asub_ev x y hx hy) (Ev.bind (asub_ev y x hy hx) (Ev.bind (mul_ev x y hx hy) (Ev.bind (rneg_ev x) (Ev.bind m3 ?_))))
  have last : Ev (fun k => (tabardref3_Neg.f k ((mulR x y : Nat) : Int)).bind fun t => some (((ngt (mulR x y) : Nat) : Int) == t)) true :=
    Ev.bind (rneg_ev (mulR x y)) (Ev.congr (fun k => congrArg some (beq_self_eq_true _)) (Ev.now _))
  generalize addR x (ngt y) = d at *
  generalize addR y (ngt x) = e at *
  have rest : Ev (fun k => (tabardref3_Neg.f k (e : Int)).bind fun t => (if (d : Int) = t then ((tabardref3_Neg.f k ((mulR x y : Nat) : Int)).bind fun t => some (((ngt (mulR x y) : Nat) : Int) == t)) else (if (Int.tmod (d : Int) 9223372036854775808) = 0 then (if (Int.tmod (e : Int) 9223372036854775808) = 0 then ((tabardref3_Neg.f k ((mulR x y : Nat) : Int)).bind fun t => some (((ngt (mulR x y) : Nat) : Int) == t)) else (none)) else (none)))) true := by
    refine Ev.bind (rneg_ev e) ?_
    by_cases hd : (d : Int) = ((ngt e : Nat) : Int)
    · exact Ev.congr (fun k => if_pos hd) last
    · obtain ⟨z1, z2⟩ := st.resolve_left (fun q => hd (by rw [q]))
      refine Ev.congr (fun k => (if_neg hd).trans ((if_pos ?_).trans (if_pos ?_))) last
      · rw [Int.tmod_eq_emod_of_nonneg (Int.natCast_nonneg _)]; omega
      · rw [Int.tmod_eq_emod_of_nonneg (Int.natCast_nonneg _)]; omega
  by_cases hd : (d : Int) = 0
  · refine Ev.congr (fun k => if_pos hd) ?_
    by_cases he : (e : Int) = 0
    · exact Ev.congr (fun k => if_pos he) last
    · exact Ev.congr (fun k => if_neg he) rest
  · exact Ev.congr (fun k => if_neg hd) rest
end Go.Proofs.Ytbejjlecpcphoaa.Q
