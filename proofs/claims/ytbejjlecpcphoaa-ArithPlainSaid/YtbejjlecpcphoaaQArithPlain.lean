/-
  ArithPlain: nothing added, or multiplied by one, changes a number. No condition.
-/
import Derived.Test.YtbejjlecpcphoaaPx61
import Derived.Test.YtbejjlecpcphoaaPx20
import Derived.Test.YtbejjlecpcphoaaQAX
import Derived.Test.YtbejjlecpcphoaaQF2
import Derived.Test.YtbejjlecpcphoaaQShown4
namespace Go.Proofs.Ytbejjlecpcphoaa.Q
set_option linter.unusedVariables false
open Go.RowKit Go.Proofs.YtbejjlecpcphoaaW.PrintWords Go.Proofs.YtbejjlecpcphoaaW.PrintLast Go.Proofs.YtbejjlecpcphoaaW.PrintMore
open Go.Proofs.Ytbejjlecpcphoaa.P Go.Proofs.Ytbejjlecpcphoaa.LL Go.Proofs.Ytbejjlecpcphoaa.FM

/-- A number of whose kind is none: the one such; else itself. -/
@[irreducible] def rgt (x : Nat) : Nat := if kd x = 4 then 9221120237041090560 else x
theorem rgt_ev (x : Nat) : Ev (fun k => tabardref3_Right.f k (x : Int)) ((rgt x : Nat) : Int) := by
  unfold tabardref3_Right.f
  refine Ev.bind (rkind_ev x) ?_
  by_cases h : kd x = 4
  · have e : rgt x = 9221120237041090560 := by unfold rgt; rw [if_pos h]
    rw [e]; exact Ev.congr (fun k => if_pos h) (Ev.now _)
  · have e : rgt x = x := by unfold rgt; rw [if_neg h]
    rw [e]; exact Ev.congr (fun k => if_neg h) (Ev.now _)
/-- Powers of two: their kind and parts. -/
theorem two_parts_of (x e : Nat) (hx : x = e * 4503599627370496) (h0 : 0 < e) (h : e < 2047) : kd x = 2 ∧ sM x = 4503599627370496 ∧ sE x = (e : Int) - 1075 ∧ neg x = false := by
  have hk : kd x = 2 := by
    rw [kd_of, Nat.mod_eq_of_lt (by omega), if_neg (by omega), if_neg (by omega), if_pos (by omega)]
  have hM : fM x = 0 := by unfold fM; omega
  have hE : fE x = e := by unfold fE; omega
  refine ⟨hk, ?_, ?_, ?_⟩
  · unfold sM; rw [if_pos hk, hM]
  · unfold sE; rw [if_pos hk, hE]
  · unfold neg; exact decide_eq_false (by omega)
theorem sgn_neg {x : Nat} (h : x < 18446744073709551616) : sgn (neg x) (x % 9223372036854775808) = x := by
  have e : neg x = decide ((x : Int) ≥ 9223372036854775808) := by unfold neg; rfl
  rw [e]; exact sgn_self h
theorem low_kd3 {x : Nat} (h : kd x = 3) : x % 9223372036854775808 = 9218868437227405312 := (kd3 x).1 h
/-- Times one. -/
theorem mul_one' {x u : Nat} (hx : x < 18446744073709551616) (h1 : kd u = 2) (h2 : sM u = 4503599627370496) (h3 : sE u = -52) (h4 : neg u = false) : mulR x u = rgt x := by
  have rx := kd_range x
  unfold rgt
  by_cases k4 : kd x = 4
  · rw [if_pos k4, mulR_nan (Or.inl k4)]
  rw [if_neg k4]
  have eb : (neg x != false) = neg x := by cases neg x <;> rfl
  by_cases k3 : kd x = 3
  · rw [mulR_inf (by omega) (by omega) (Or.inl ⟨k3, by omega⟩), h4, eb, ← low_kd3 k3]; exact sgn_neg hx
  · have s : near (sM x * 4503599627370496) (sE x + -52) false = near (sM x) (sE x) false := near_scale (sM x) (sE x) 52
    rw [mulR_fin (by omega) (by omega), h4, eb, h2, h3, s, near_self (kd_fin (by omega))]; exact sgn_neg hx
theorem near_mag {x : Nat} (h : kd x < 3) : near (mag x) (-1074) false = x % 9223372036854775808 := by
  have b := sE_bounds x
  obtain ⟨j, hj⟩ : ∃ j : Nat, sE x + 1074 = (j : Int) := ⟨(sE x + 1074).toNat, by omega⟩
  have em : mag x = sM x * 2 ^ j := by unfold mag; rw [hj, Int.toNat_natCast]
  rw [em, show (-1074 : Int) = sE x - (j : Int) by omega, near_scale, near_self (kd_fin (by omega))]
theorem mag_zero {x : Nat} (h : kd x = 0) : mag x = 0 := by
  have k := kd_cases x
  have : sM x = 0 := by unfold sM; rw [if_neg (by omega), if_pos (by omega)]; omega
  unfold mag; rw [this, Nat.zero_mul]
theorem mag_pos {x : Nat} (h : kd x < 3) (h0 : kd x ≠ 0) : mag x ≠ 0 := by
  have k := kd_cases x
  have : sM x ≠ 0 := by
    unfold sM
    by_cases c : kd x = 2
    · rw [if_pos c]; omega
    · rw [if_neg c, if_pos (by omega)]; omega
  unfold mag; exact Nat.mul_ne_zero this (Nat.ne_of_gt (Nat.two_pow_pos _))
/-- Twice. -/
theorem add_twice {x u : Nat} (hx : x < 18446744073709551616) (h1 : kd u = 2) (h2 : sM u = 4503599627370496) (h3 : sE u = -51) (h4 : neg u = false) : addR x x = mulR x u := by
  have rx := kd_range x
  by_cases k4 : kd x = 4
  · rw [addR_nan (Or.inl k4), mulR_nan (Or.inl k4)]
  have eb : (neg x != false) = neg x := by cases neg x <;> rfl
  by_cases k3 : kd x = 3
  · rw [addR_inf k3 (Or.inr ⟨k3, rfl⟩), mulR_inf (by omega) (by omega) (Or.inl ⟨k3, by omega⟩), h4, eb, ← low_kd3 k3]; exact (sgn_neg hx).symm
  have s : near (sM x * 4503599627370496) (sE x + -51) false = near (2 * sM x) (sE x) false := by
    have q : near (2 * sM x * 2251799813685248) (sE x + -51) false = near (2 * sM x) (sE x) false := near_scale (2 * sM x) (sE x) 51
    have e : sM x * 4503599627370496 = 2 * sM x * 2251799813685248 := by omega
    rw [e]; exact q
  rw [mulR_fin (by omega) (by omega), h4, eb, h2, h3, s]
  by_cases k0 : kd x = 0
  · have k := kd_cases x
    have z : sM x = 0 := by unfold sM; rw [if_neg (by omega), if_pos (by omega)]; omega
    have zn : near (2 * sM x) (sE x) false = x % 9223372036854775808 := by
      rw [z, (kd0 x).1 k0]; unfold near; rw [if_pos rfl]
    rw [addR_zeros k0 k0, if_pos rfl, zn]; exact (sgn_neg hx).symm
  · have mp := mag_pos (by omega) k0
    have b := sE_bounds x
    obtain ⟨j, hj⟩ : ∃ j : Nat, sE x + 1074 = (j : Int) := ⟨(sE x + 1074).toNat, by omega⟩
    have em : mag x = sM x * 2 ^ j := by unfold mag; rw [hj, Int.toNat_natCast]
    have e2 : mag x + mag x = 2 * sM x * 2 ^ j := by rw [em, Nat.mul_assoc]; omega
    rw [addR_fin (by omega) (by omega) (by omega), finE_same _ _ (by omega), e2, show (-1074 : Int) = sE x - (j : Int) by omega, near_scale]
/-- A number less itself. -/
theorem sub_self' {x : Nat} (hx : x < 18446744073709551616) (h : kd x < 3) : addR x (ngt x) = 0 := by
  have kx := kd_ngt x
  by_cases k0 : kd x = 0
  · rw [addR_zeros k0 (by omega), if_neg (fun q => ngt_ne hx (by omega) q.symm)]
  · have nx := neg_ngt hx (by omega)
    rw [addR_fin h (by omega) (by omega), mag_ngt, nx, finE_eq _ (by cases neg x <;> decide)]
theorem sub_inf {x : Nat} (hx : x < 18446744073709551616) (h : kd x ≥ 3) : addR x (ngt x) = 9221120237041090560 := by
  have kx := kd_ngt x
  have rx := kd_range x
  by_cases k4 : kd x = 4
  · rw [addR_nan (Or.inl k4)]
  · rw [addR_inf2 (by omega) (by omega) (fun q => ngt_ne hx k4 q.symm)]
/-- Nothing added. -/
theorem add_zero' {x z : Nat} (hx : x < 18446744073709551616) (hz : kd z = 0) (h : kd x < 3) (hs : kd x = 0 → x = z ∨ x = 0) : addR x z = x := by
  by_cases k0 : kd x = 0
  · rw [addR_zeros k0 hz]
    by_cases e : x = z
    · rw [if_pos e]
    · rw [if_neg e, (hs k0).resolve_left e]
  · have mp := mag_pos h k0
    rw [addR_fin h (by omega) (by omega), mag_zero hz]
    have nm := near_mag h
    by_cases hn : neg x = neg z
    · rw [← hn, finE_same _ _ (by omega), Nat.add_zero, nm]; exact sgn_neg hx
    · rw [finE_gt _ hn (by omega), Nat.sub_zero, nm]; exact sgn_neg hx
theorem add_big {x : Nat} (h : kd x ≥ 3) : addR x 0 = rgt x := by
  have rx := kd_range x
  have k0 : kd 0 = 0 := (kd0 0).2 rfl
  unfold rgt
  by_cases k4 : kd x = 4
  · rw [addR_nan (Or.inl k4), if_pos k4]
  · rw [if_neg k4, addR_inf (by omega) (Or.inl (by omega))]
theorem ArithPlain (a : Int) (wa : (Lit.int .u64 a).wf = true) : ∃ k, tabardlaw4_ArithPlain.f k a = some true := by
  have h1 := Word.of_wf wa
  obtain ⟨x, rfl⟩ := Int.eq_ofNat_of_zero_le h1.lo
  have hx : x < 18446744073709551616 := by have := h1.hi; omega
  obtain ⟨o1, o2, o3, o4⟩ := two_parts_of 4607182418800017408 1023 (by decide) (by decide) (by decide)
  obtain ⟨t1, t2, t3, t4⟩ := two_parts_of 4611686018427387904 1024 (by decide) (by decide) (by decide)
  have m1 := mul_ev x 4607182418800017408 hx (by decide)
  have m2 := mul_ev x 4611686018427387904 hx (by decide)
  have m3 := mul_ev x 13830554455654793216 hx (by decide)
  have one : mulR x 4607182418800017408 = rgt x := mul_one' hx o1 o2 (by rw [o3]; decide) o4
  have two : mulR x 4611686018427387904 = addR x x := (add_twice hx t1 t2 (by rw [t3]; decide) t4).symm
  have eo : ngt 4607182418800017408 = 13830554455654793216 := by rw [ngt_eq (by rw [o1]; decide)]
  have er : ngt (rgt x) = ngt x := by
    unfold rgt
    by_cases h : kd x = 4
    · rw [if_pos h, ngt_nan]; unfold ngt; rw [if_pos h]
    · rw [if_neg h]
  have mone : mulR x 13830554455654793216 = ngt x := by
    rw [← eo, mulR_comm, mulR_ngt (by decide), mulR_comm, one, er]
  rw [one] at m1
  rw [two] at m2
  rw [mone] at m3
  have kz : kd 0 = 0 := (kd0 0).2 rfl
  have kn : kd 9223372036854775808 = 0 := (kd0 _).2 (by decide)
  have s := asub_ev x x hx hx
  have z0 := add_ev x 0 hx (by decide)
  have z1 := add_ev x 9223372036854775808 hx (by decide)
  apply Ev.rounds
  unfold tabardlaw4_ArithPlain.f
  refine Ev.bind shown4 (Ev.congr (fun k => if_pos rfl) (Ev.bind (rgt_ev x) (Ev.bind m1 (Ev.congr (fun k => if_pos rfl) (Ev.bind (add_ev x x hx hx) (Ev.bind m2 (Ev.congr (fun k => if_pos rfl) ?_)))))))
  refine Ev.bind m3 (Ev.bind (rneg_ev x) (Ev.congr (fun k => if_pos rfl) (Ev.bind (rkind_ev x) ?_)))
  by_cases k3 : kd x ≥ 3
  · rw [sub_inf hx k3] at s
    rw [add_big k3] at z0
    exact Ev.congr (fun k => if_pos k3) (Ev.bind s (Ev.congr (fun k => if_pos rfl) (Ev.bind z0 (Ev.congr (fun k => congrArg some (beq_self_eq_true _)) (Ev.now _)))))
  refine Ev.congr (fun k => if_neg k3) ?_
  rw [sub_self' hx (by omega)] at s
  refine Ev.bind s (Ev.congr (fun k => if_pos rfl) ?_)
  by_cases hn : x = 9223372036854775808
  · rw [add_zero' hx kn (by omega) (fun _ => Or.inl hn)] at z1
    exact Ev.congr (fun k => if_pos (show (x : Int) = 9223372036854775808 by omega)) (Ev.bind z1 (Ev.congr (fun k => congrArg some (beq_self_eq_true _)) (Ev.now _)))
  · have h0 : kd x = 0 → x = 0 := fun hk => by have := (kd0 x).1 hk; omega
    rw [add_zero' hx kz (by omega) (fun hk => Or.inr (h0 hk))] at z0
    rw [add_zero' hx kn (by omega) (fun hk => Or.inr (h0 hk))] at z1
    exact Ev.congr (fun k => if_neg (show ¬ (x : Int) = 9223372036854775808 by omega)) (Ev.bind z0 (Ev.congr (fun k => if_pos rfl) (Ev.bind z1 (Ev.congr (fun k => congrArg some (beq_self_eq_true _)) (Ev.now _)))))
end Go.Proofs.Ytbejjlecpcphoaa.Q
