/-
  FloatJoins: Join of package float is the reference's Round. No condition.
-/
import Derived.Test.YtbejjlecpcphoaaPx16
import Derived.Test.YtbejjlecpcphoaaQF5
import Derived.Test.YtbejjlecpcphoaaQShown3
import Derived.Test.YtbejjlecpcphoaaQ1
namespace Go.Proofs.Ytbejjlecpcphoaa.Q
set_option linter.unusedVariables false
open Go.RowKit Go.Proofs.YtbejjlecpcphoaaW.PrintWords Go.Proofs.YtbejjlecpcphoaaW.PrintLast Go.Proofs.YtbejjlecpcphoaaW.PrintMore
open Go.Proofs.Ytbejjlecpcphoaa.P Go.Proofs.Ytbejjlecpcphoaa.LL Go.Proofs.Ytbejjlecpcphoaa.FM

theorem nat2_ev {a b : Int} (h1 : Word a) (h2 : Word b) : Ev (fun k => tabardref2_Nat.f k 0 a b) (limbs (two a b)) := by
  have h := nat_ev (a := 0) (by decide) (by decide) h1.lo h1.hi h2.lo h2.hi
  have e : b.toNat + 18446744073709551616 * a.toNat + 340282366920938463463374607431768211456 * (0 : Int).toNat = two a b := by
    unfold two; simp; omega
  rwa [e] at h
theorem FloatJoins (neg : Bool) (a b e : Int) (more : Bool) (wa : (Lit.int .u64 a).wf = true) (wb : (Lit.int .u64 b).wf = true) (we : (Lit.int .i64 e).wf = true) : ∃ k, tabardlaw3_FloatJoins.f k neg a b e more = some true := by
  have h1 := Word.of_wf wa
  have h2 := Word.of_wf wb
  have he := int_of_wf we
  have j := join_ev neg more h1 h2 e he.1
  have l4 : (limbs (two a b)).length ≤ 4 := limbs_len_le (Nat.lt_of_lt_of_le (two_lt h1 h2) (by decide))
  have r := round_ev neg more (n := two a b) (by omega) e he.1 (by omega)
  apply Ev.rounds
  unfold tabardlaw3_FloatJoins.f
  refine Ev.bind shown3 (Ev.congr (fun k => if_pos rfl) (Ev.bind j (Ev.bind (nat2_ev h1 h2) (Ev.bind r ?_))))
  exact Ev.congr (fun k => congrArg some (beq_self_eq_true _)) (Ev.now _)
end Go.Proofs.Ytbejjlecpcphoaa.Q
