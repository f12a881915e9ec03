/-
  FloatParts: the kinds, parts, neighbours of every float are the reference's. No condition.
-/
import Derived.Test.YtbejjlecpcphoaaPx22
import Derived.Test.YtbejjlecpcphoaaQF2
import Derived.Test.YtbejjlecpcphoaaQShown3
namespace Go.Proofs.Ytbejjlecpcphoaa.Q
set_option linter.unusedVariables false
open Go.RowKit Go.Proofs.YtbejjlecpcphoaaW.PrintWords Go.Proofs.YtbejjlecpcphoaaW.PrintLast Go.Proofs.YtbejjlecpcphoaaW.PrintMore
open Go.Proofs.Ytbejjlecpcphoaa.P Go.Proofs.Ytbejjlecpcphoaa.LL Go.Proofs.Ytbejjlecpcphoaa.FM

theorem FloatParts (a : Int) (wa : (Lit.int .u64 a).wf = true) : ∃ k, tabardlaw3_FloatParts.f k a = some true := by
  have h1 := Word.of_wf wa
  obtain ⟨x, rfl⟩ := Int.eq_ofNat_of_zero_le h1.lo
  have h : x < 18446744073709551616 := by have := h1.hi; omega
  obtain ⟨r1, p1, p2⟩ := right_ev x h
  obtain ⟨r2, q1, q2⟩ := abs_ev x h
  apply Ev.rounds
  unfold tabardlaw3_FloatParts.f
  refine Ev.bind shown3 (Ev.bind (split_ev x h) (Ev.bind (rsplit_ev x) (Ev.bind (kind_ev x h) (Ev.bind (rkind_ev x) (Ev.congr (fun k => if_pos rfl) ?_)))))
  refine Ev.bind p1 (Ev.bind p2 (Ev.congr (fun k => if_pos rfl) (Ev.congr (fun k => if_pos (beq_self_eq_true _)) (Ev.congr (fun k => if_pos rfl) (Ev.congr (fun k => if_pos rfl) (Ev.congr (fun k => if_pos rfl) ?_))))))
  refine Ev.bind (neg_ev x h) (Ev.bind (rneg_ev x) (Ev.congr (fun k => if_pos rfl) (Ev.bind q1 (Ev.bind q2 (Ev.congr (fun k => if_pos rfl) ?_)))))
  refine Ev.bind (next_ev x h) (Ev.bind (rnext_ev x h) (Ev.congr (fun k => if_pos rfl) (Ev.bind (prev_ev x h) (Ev.bind (rprev_ev x) ?_))))
  exact Ev.congr (fun k => congrArg some (beq_self_eq_true _)) (Ev.now _)
end Go.Proofs.Ytbejjlecpcphoaa.Q
