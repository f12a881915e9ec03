/-
  ArithMuls: Mul is the reference's. No condition.
-/
import Derived.Test.YtbejjlecpcphoaaPx57
import Derived.Test.YtbejjlecpcphoaaQAM
import Derived.Test.YtbejjlecpcphoaaQShown4
namespace Go.Proofs.Ytbejjlecpcphoaa.Q
set_option linter.unusedVariables false
open Go.RowKit Go.Proofs.YtbejjlecpcphoaaW.PrintWords Go.Proofs.YtbejjlecpcphoaaW.PrintLast Go.Proofs.YtbejjlecpcphoaaW.PrintMore
open Go.Proofs.Ytbejjlecpcphoaa.P Go.Proofs.Ytbejjlecpcphoaa.LL Go.Proofs.Ytbejjlecpcphoaa.FM

theorem ArithMuls (a b : Int) (wa : (Lit.int .u64 a).wf = true) (wb : (Lit.int .u64 b).wf = true) : ∃ k, tabardlaw4_ArithMuls.f k a b = some true := by
  have h1 := Word.of_wf wa
  have h2 := Word.of_wf wb
  obtain ⟨x, rfl⟩ := Int.eq_ofNat_of_zero_le h1.lo
  obtain ⟨y, rfl⟩ := Int.eq_ofNat_of_zero_le h2.lo
  have hx : x < 18446744073709551616 := by have := h1.hi; omega
  have hy : y < 18446744073709551616 := by have := h2.hi; omega
  apply Ev.rounds
  unfold tabardlaw4_ArithMuls.f
  refine Ev.bind shown4 (Ev.congr (fun k => if_pos rfl) (Ev.bind (mul_ev x y hx hy) (Ev.bind (rmul_ev x y hx hy) ?_)))
  exact Ev.congr (fun k => congrArg some (beq_self_eq_true _)) (Ev.now _)
end Go.Proofs.Ytbejjlecpcphoaa.Q
