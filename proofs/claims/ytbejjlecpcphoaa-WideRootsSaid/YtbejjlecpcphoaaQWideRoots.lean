/-
  WideRoots: the root's square is not above the number, the next one's is. No condition.
-/
import Derived.Test.YtbejjlecpcphoaaPx43
import Derived.Test.YtbejjlecpcphoaaQ6w
import Derived.Test.YtbejjlecpcphoaaQShown2
namespace Go.Proofs.Ytbejjlecpcphoaa.Q
set_option linter.unusedVariables false
open Go.RowKit Go.Proofs.YtbejjlecpcphoaaW.PrintWords Go.Proofs.YtbejjlecpcphoaaW.PrintLast Go.Proofs.YtbejjlecpcphoaaW.PrintMore
open Go.Proofs.Ytbejjlecpcphoaa.P Go.Proofs.Ytbejjlecpcphoaa.LL Go.Proofs.Ytbejjlecpcphoaa.FM

theorem sq_lt {r : Nat} (h : r < 18446744073709551616) : r * r < 340282366920938463463374607431768211456 := by
  have := Nat.mul_le_mul (show r ≤ 18446744073709551615 from Nat.le_of_lt_succ h) (show r ≤ 18446744073709551615 from Nat.le_of_lt_succ h)
  exact Nat.lt_of_le_of_lt this (by decide)
theorem mul_sq {r : Nat} (h : r < 18446744073709551616) : wide_Mul.f (r : Int) (r : Int) = some (hiW (r * r), loW (r * r)) := by
  have hw : Word (r : Int) := ⟨Int.natCast_nonneg _, by omega⟩
  have := mul_eq hw hw
  rwa [Int.toNat_natCast] at this
theorem cmp_sq {r : Nat} (h : r < 18446744073709551616) {a b : Int} (h1 : Word a) (h2 : Word b) : wide_Cmp.f (hiW (r * r)) (loW (r * r)) a b = some (cmpN (r * r) (two a b)) := by
  have := cmp_eq (hiW_word (r * r)) (loW_word (r * r)) h1 h2
  rwa [two_hilo (sq_lt h)] at this
theorem eq_sq {n : Nat} (h : n < 340282366920938463463374607431768211456) {a b : Int} (h1 : Word a) (h2 : Word b) : (hiW n == a && (loW n == b)) = decide (n = two a b) := by
  rw [Bool.eq_iff_iff]
  simp only [Bool.and_eq_true, beq_iff_eq, decide_eq_true_eq]
  constructor
  · rintro ⟨e1, e2⟩
    rw [← two_hilo h, e1, e2]
  · intro e
    rw [e, hiW_two h1 h2, loW_two h1 h2]; exact ⟨rfl, rfl⟩

theorem WideRoots (a b : Int) (wa : (Lit.int .u64 a).wf = true) (wb : (Lit.int .u64 b).wf = true) : ∃ k, tabardlaw2_WideRoots.f k a b = some true := by
  have h1 := Word.of_wf wa
  have h2 := Word.of_wf wb
  obtain ⟨r, r1, r2, r3, r4⟩ := wroot_ev h1 h2
  apply Ev.rounds
  unfold tabardlaw2_WideRoots.f
  have m1 := mul_sq r1
  have m2 := cmp_sq r1 h1 h2
  have m3 := eq_sq (sq_lt r1) h1 h2
  have c1 : ¬ cmpN (r * r) (two a b) > 0 := Int.not_lt.2 (cmpN_le r2)
  generalize cmpN (r * r) (two a b) = c at *
  refine Ev.bind shown2 (Ev.congr (fun k => if_pos rfl) (Ev.bind r4 ?_))
  refine Ev.congr (fun k => bind_eq m1 _) (Ev.congr (fun k => bind_eq m2 _) (Ev.congr (fun k => if_neg c1) ?_))
  rw [m3]
  refine Ev.congr (fun k => if_neg (by simp)) ?_
  by_cases hr : r = 18446744073709551615
  · have : (r : Int) = 18446744073709551615 := by omega
    exact Ev.congr (fun k => if_pos this) (Ev.now _)
  · have hn : ¬ (r : Int) = 18446744073709551615 := by clear m1 m2 m3; omega
    have r5 : r + 1 < 18446744073709551616 := by clear m1 m2 m3; omega
    have e : IntKind.u64.wrap ((r : Int) + 1) = ((r + 1 : Nat) : Int) := by rw [wu (by clear m1 m2 m3; omega) (by clear m1 m2 m3; omega)]; rfl
    have n1 := mul_sq r5
    have n2 := cmp_sq r5 h1 h2
    have n3 := decide_eq_true (cmpN_pos r3)
    refine Ev.congr (fun k => if_neg hn) ?_
    rw [e]
    refine Ev.congr (fun k => bind_eq n1 _) (Ev.congr (fun k => bind_eq n2 _) ?_)
    exact Ev.congr (fun k => congrArg some n3) (Ev.now _)
end Go.Proofs.Ytbejjlecpcphoaa.Q
