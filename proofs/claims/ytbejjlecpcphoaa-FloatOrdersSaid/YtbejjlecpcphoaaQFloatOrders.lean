/-
  FloatOrders: rounding keeps the order. No condition.
-/
import Derived.Test.YtbejjlecpcphoaaPx19
import Derived.Test.YtbejjlecpcphoaaQF3
import Derived.Test.YtbejjlecpcphoaaQShown3
namespace Go.Proofs.Ytbejjlecpcphoaa.Q
set_option linter.unusedVariables false
open Go.RowKit Go.Proofs.YtbejjlecpcphoaaW.PrintWords Go.Proofs.YtbejjlecpcphoaaW.PrintLast Go.Proofs.YtbejjlecpcphoaaW.PrintMore
open Go.Proofs.Ytbejjlecpcphoaa.P Go.Proofs.Ytbejjlecpcphoaa.LL Go.Proofs.Ytbejjlecpcphoaa.FM

/-- The signs: what the law says of them. -/
theorem signs {n : Nat} {e : Int} (more : Bool) : (((sgn true (near n e more) : Nat) : Int) == IntKind.u64.wrap (((sgn false (near n e more) : Nat) : Int) + 9223372036854775808)) = true := by
  have h := near_le n e more
  rw [sgn_true, sgn_false, wu (by omega) (by omega)]
  exact beq_self_eq_true _
theorem up_sgn {x y : Nat} (h : x ≤ y) : ¬ ((sgn false x : Nat) : Int) > ((sgn false y : Nat) : Int) := by rw [sgn_false, sgn_false]; omega
theorem top_sgn (n : Nat) (e : Int) (more : Bool) : ¬ ((sgn false (near n e more) : Nat) : Int) > 9218868437227405312 := by have := near_le n e more; rw [sgn_false]; omega
theorem FloatOrders (a b c d e : Int) (wa : (Lit.int .u64 a).wf = true) (wb : (Lit.int .u64 b).wf = true) (wc : (Lit.int .u64 c).wf = true) (wd : (Lit.int .u64 d).wf = true) (we : (Lit.int .i64 e).wf = true) : ∃ k, tabardlaw3_FloatOrders.f k a b c d e = some true := by
  have h1 := Word.of_wf wa
  have h2 := Word.of_wf wb
  have h3 := Word.of_wf wc
  have h4 := Word.of_wf wd
  have he := (int_of_wf we).1
  have c1 := cmp_eq h1 h2 h3 h4
  have c2 := cmp_eq h3 h4 h1 h2
  have jx := join_ev false false h1 h2 e he
  have jy := join_ev false false h3 h4 e he
  have kx := join_ev false true h1 h2 e he
  have ky := join_ev false true h3 h4 e he
  have nx := join_ev true true h1 h2 e he
  have ny := join_ev true true h3 h4 e he
  apply Ev.rounds
  unfold tabardlaw3_FloatOrders.f
  refine Ev.bind shown3 (Ev.congr (fun k => if_pos rfl) (Ev.congr (fun k => bind_eq c1 _) ?_))
  generalize two a b = x at *
  generalize two c d = y at *
  by_cases h : y < x
  · refine Ev.congr (fun k => if_pos (cmpN_pos h)) (Ev.bind jy (Ev.bind jx (Ev.bind ky ?_)))
    refine Ev.congr (fun k => if_neg (up_sgn (near_mono e (Nat.le_of_lt h)))) (Ev.congr (fun k => if_neg (up_sgn (near_more y e))) ?_)
    refine Ev.congr (fun k => bind_eq c2 _) (Ev.congr (fun k => if_pos (cmpN_neg h)) ?_)
    refine Ev.congr (fun k => if_neg (up_sgn (near_mono_lt e h))) (Ev.congr (fun k => if_neg (top_sgn x e false)) (Ev.bind ny ?_))
    exact Ev.congr (fun k => congrArg some (signs true)) (Ev.now _)
  · have hle := Nat.le_of_not_lt h
    refine Ev.congr (fun k => if_neg (Int.not_lt.2 (cmpN_le hle))) (Ev.bind jx (Ev.bind jy (Ev.bind kx ?_)))
    refine Ev.congr (fun k => if_neg (up_sgn (near_mono e hle))) (Ev.congr (fun k => if_neg (up_sgn (near_more x e))) ?_)
    refine Ev.congr (fun k => bind_eq c1 _) ?_
    by_cases h5 : x < y
    · refine Ev.congr (fun k => if_pos (cmpN_neg h5)) ?_
      refine Ev.congr (fun k => if_neg (up_sgn (near_mono_lt e h5))) (Ev.congr (fun k => if_neg (top_sgn y e false)) (Ev.bind nx ?_))
      exact Ev.congr (fun k => congrArg some (signs true)) (Ev.now _)
    · refine Ev.congr (fun k => if_neg (cmpN_nneg h5)) (Ev.congr (fun k => if_neg (top_sgn y e false)) (Ev.bind nx ?_))
      exact Ev.congr (fun k => congrArg some (signs true)) (Ev.now _)
end Go.Proofs.Ytbejjlecpcphoaa.Q
