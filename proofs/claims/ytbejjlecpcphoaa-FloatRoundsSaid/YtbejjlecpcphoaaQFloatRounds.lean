/-
  FloatRounds: Round of package float is the reference's Round. No condition.
-/
import Derived.Test.YtbejjlecpcphoaaPx26
import Derived.Test.YtbejjlecpcphoaaQF5
import Derived.Test.YtbejjlecpcphoaaQShown3
import Derived.Test.YtbejjlecpcphoaaQFR
namespace Go.Proofs.Ytbejjlecpcphoaa.Q
set_option linter.unusedVariables false
open Go.RowKit Go.Proofs.YtbejjlecpcphoaaW.PrintWords Go.Proofs.YtbejjlecpcphoaaW.PrintLast Go.Proofs.YtbejjlecpcphoaaW.PrintMore
open Go.Proofs.Ytbejjlecpcphoaa.P Go.Proofs.Ytbejjlecpcphoaa.LL Go.Proofs.Ytbejjlecpcphoaa.FM

theorem lb_of_wf {l : List Int} (h : ∀ x ∈ l, (Lit.int .u32 x).wf = true) : Lb l := by
  intro x hx
  have := h x hx
  simp [Lit.wf, IntKind.min, IntKind.max, IntKind.signed, IntKind.bits] at this
  omega
theorem FloatRounds : tabardlaw3_FloatRounds.Pure := by
  intro neg l e more _ _ hw we
  have hl := lb_of_wf hw
  have he := int_of_wf we
  apply Ev.rounds
  unfold tabardlaw3_FloatRounds.f
  refine Ev.bind shown3 (Ev.congr (fun k => if_pos rfl) ?_)
  by_cases h3 : (l.length : Int) > 300
  · exact Ev.congr (fun k => if_pos h3) (Ev.now _)
  · refine Ev.congr (fun k => if_neg h3) (Ev.bind (fround_ev neg more hl (by omega) e he.1 he.2) (Ev.bind (round_evl neg more hl rfl (by omega) e he.1 (by omega)) ?_))
    exact Ev.congr (fun k => congrArg some (beq_self_eq_true _)) (Ev.now _)
end Go.Proofs.Ytbejjlecpcphoaa.Q
