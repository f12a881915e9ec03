/-
  FloatBack: a number's parts make the number. No condition.
-/
import Derived.Test.YtbejjlecpcphoaaPx27
import Derived.Test.YtbejjlecpcphoaaQFN
import Derived.Test.YtbejjlecpcphoaaQFR
import Derived.Test.YtbejjlecpcphoaaQShown3
namespace Go.Proofs.Ytbejjlecpcphoaa.Q
set_option linter.unusedVariables false
open Go.RowKit Go.Proofs.YtbejjlecpcphoaaW.PrintWords Go.Proofs.YtbejjlecpcphoaaW.PrintLast Go.Proofs.YtbejjlecpcphoaaW.PrintMore
open Go.Proofs.Ytbejjlecpcphoaa.P Go.Proofs.Ytbejjlecpcphoaa.LL Go.Proofs.Ytbejjlecpcphoaa.FM

theorem back_list (m : Nat) (hm : m < 9007199254740992) : ∃ l : List Int, [0, (Int.tmod (m : Int) 4294967296) % 4294967296, ((m : Int) / 4294967296) % 4294967296, 0] = l ∧ Lb l ∧ l.length = 4 ∧ val l = m * 2 ^ 32 := by
  refine ⟨_, rfl, ?_, rfl, ?_⟩
  · rw [Int.tmod_eq_emod_of_nonneg (Int.natCast_nonneg _)]
    exact Lb.cons (by omega) (by omega) (Lb.cons (by omega) (by omega) (Lb.cons (by omega) (by omega) (Lb.cons (by omega) (by omega) lb_nil)))
  · rw [Int.tmod_eq_emod_of_nonneg (Int.natCast_nonneg _)]
    simp only [val]
    omega
theorem scale64 (n : Nat) (e : Int) : near (n * 2 ^ 64) (e - 64) false = near n e false := near_scale n e 64
theorem scale32 (n : Nat) (e : Int) : near (n * 2 ^ 32) (e - 32) false = near n e false := near_scale n e 32
theorem two_hi (n : Nat) : two (n : Int) 0 = n * 2 ^ 64 := by
  have e : (2 : Nat) ^ 64 = 18446744073709551616 := by decide
  have z : (0 : Int).toNat = 0 := rfl
  unfold two; rw [e, Int.toNat_natCast, z, Nat.add_zero]
theorem FloatBack (a : Int) (wa : (Lit.int .u64 a).wf = true) : ∃ k, tabardlaw3_FloatBack.f k a = some true := by
  have h1 := Word.of_wf wa
  obtain ⟨x, rfl⟩ := Int.eq_ofNat_of_zero_le h1.lo
  have h : x < 18446744073709551616 := by have := h1.hi; omega
  have hm := sM_lt x
  have he := sE_bounds x
  apply Ev.rounds
  unfold tabardlaw3_FloatBack.f
  refine Ev.bind shown3 (Ev.bind (split_ev x h) (Ev.bind (kind_ev x h) ?_))
  by_cases k3 : kd x ≥ 3
  · have e1 : sM x = 0 := by unfold sM; rw [if_neg (by omega), if_neg (by omega)]
    have e2 : sE x = 0 := by unfold sE; rw [if_neg (by omega), if_neg (by omega)]
    rw [e1, e2]
    exact Ev.congr (fun k => (if_pos k3).trans ((if_pos rfl).trans (if_pos rfl))) (Ev.now _)
  refine Ev.congr (fun k => if_neg k3) ?_
  have ns := near_self (kd_fin k3)
  have w0 : Word 0 := ⟨by omega, by omega⟩
  have wm := word_nat (x := sM x) (by omega)
  have e64 : wrap64 (sE x - 64) = sE x - 64 := w64 (by omega) (by omega)
  have e32 : wrap64 (sE x - 32) = sE x - 32 := w64 (by omega) (by omega)
  have j1 := join_ev (decide ((x : Int) ≥ 9223372036854775808)) false w0 wm (sE x) (by clear e64 e32; omega)
  rw [two0, ns, sgn_self h] at j1
  have j2 := join_ev (decide ((x : Int) ≥ 9223372036854775808)) false wm w0 (sE x - 64) (by clear e64 e32; omega)
  have t2 := two_hi (sM x)
  have s2 := scale64 (sM x) (sE x)
  rw [t2, s2, ns, sgn_self h] at j2
  obtain ⟨l, hl0, hl1, hl2, hl3⟩ := back_list (sM x) hm
  have j3 := fround_ev (decide ((x : Int) ≥ 9223372036854775808)) false hl1 (by omega) (sE x - 32) (by clear e64 e32; omega) (by clear e64 e32; omega)
  have s3 := scale32 (sM x) (sE x)
  rw [hl3, s3, ns, sgn_self h] at j3
  rw [e64, e32, hl0]
  refine Ev.bind j1 (Ev.bind j2 (Ev.bind j3 ?_))
  refine Ev.congr (fun k => (if_pos rfl).trans ((if_pos rfl).trans ((if_pos rfl).trans (if_pos rfl)))) (Ev.congr (fun k => congrArg some (beq_self_eq_true _)) (Ev.now _))
end Go.Proofs.Ytbejjlecpcphoaa.Q
