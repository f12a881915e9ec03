/-
  FloatNexts: the neighbours of every float. No condition.
-/
import Derived.Test.YtbejjlecpcphoaaPx17
import Derived.Test.YtbejjlecpcphoaaQF1
import Derived.Test.YtbejjlecpcphoaaQF3
import Derived.Test.YtbejjlecpcphoaaQShown3
namespace Go.Proofs.Ytbejjlecpcphoaa.Q
set_option linter.unusedVariables false
open Go.RowKit Go.Proofs.YtbejjlecpcphoaaW.PrintWords Go.Proofs.YtbejjlecpcphoaaW.PrintLast Go.Proofs.YtbejjlecpcphoaaW.PrintMore
open Go.Proofs.Ytbejjlecpcphoaa.P Go.Proofs.Ytbejjlecpcphoaa.LL Go.Proofs.Ytbejjlecpcphoaa.FM

/-- The kind, by the number without its sign. -/
theorem kd_of (x : Nat) : kd x = (if x % 9223372036854775808 = 0 then 0 else if x % 9223372036854775808 < 4503599627370496 then 1 else if x % 9223372036854775808 < 9218868437227405312 then 2 else if x % 9223372036854775808 = 9218868437227405312 then 3 else 4) := by
  have h := kd_cases x
  have e : fE x = x % 9223372036854775808 / 4503599627370496 ∧ fM x = x % 9223372036854775808 % 4503599627370496 := by unfold fE fM; omega
  obtain ⟨e1, e2⟩ := e
  rw [e1, e2] at h
  have hr : x % 9223372036854775808 < 9223372036854775808 := Nat.mod_lt _ (by decide)
  generalize x % 9223372036854775808 = r at *
  generalize kd x = K at *
  clear e1 e2
  by_cases a0 : r = 0
  · rw [if_pos a0]; omega
  rw [if_neg a0]
  by_cases a1 : r < 4503599627370496
  · rw [if_pos a1]; omega
  rw [if_neg a1]
  by_cases a2 : r < 9218868437227405312
  · rw [if_pos a2]; omega
  rw [if_neg a2]
  by_cases a3 : r = 9218868437227405312
  · rw [if_pos a3]; omega
  · rw [if_neg a3]; omega
theorem kd4 (x : Nat) : kd x = 4 ↔ 9218868437227405312 < x % 9223372036854775808 := by
  rw [kd_of]
  generalize x % 9223372036854775808 = r
  split
  · omega
  · split
    · omega
    · split
      · omega
      · split
        · omega
        · omega
theorem kd0 (x : Nat) : kd x = 0 ↔ x % 9223372036854775808 = 0 := by
  rw [kd_of]
  generalize x % 9223372036854775808 = r
  split
  · omega
  · split
    · omega
    · split
      · omega
      · split
        · omega
        · omega
theorem kd3 (x : Nat) : kd x = 3 ↔ x % 9223372036854775808 = 9218868437227405312 := by
  rw [kd_of]
  generalize x % 9223372036854775808 = r
  split
  · omega
  · split
    · omega
    · split
      · omega
      · split
        · omega
        · omega
theorem ngt_of {x : Nat} (h : x % 9223372036854775808 ≤ 9218868437227405312) : ngt x = (x + 9223372036854775808) % 18446744073709551616 := by
  unfold ngt; rw [if_neg (fun h4 => by have := (kd4 x).1 h4; omega)]
theorem nxt_up {x : Nat} (h0 : 0 < x) (h : x < 9218868437227405312) : nxt x = x + 1 := by
  have h4 : ¬ kd x = 4 := fun h4 => by have := (kd4 x).1 h4; omega
  have h5 : ¬ kd x = 0 := fun h4 => by have := (kd0 x).1 h4; omega
  unfold nxt; rw [if_neg h4, if_neg h5, if_neg (by omega), if_neg (by omega)]
theorem nxt_down {x : Nat} (h0 : 9223372036854775808 < x) (h : x ≤ 18442240474082181120) : nxt x = x - 1 := by
  have h4 : ¬ kd x = 4 := fun h4 => by have := (kd4 x).1 h4; omega
  have h5 : ¬ kd x = 0 := fun h4 => by have := (kd0 x).1 h4; omega
  unfold nxt; rw [if_neg h4, if_neg h5, if_neg (by omega), if_pos (by omega)]
theorem back_up {x : Nat} (h0 : 0 < x) (h : x < 9218868437227405312) : ngt (nxt (ngt (x + 1))) = x := by
  rw [ngt_of (x := x + 1) (by omega), Nat.mod_eq_of_lt (by omega), nxt_down (by omega) (by omega), ngt_of (by omega)]; omega
theorem back_down {x : Nat} (h0 : 9223372036854775809 < x) (h : x ≤ 18442240474082181120) : ngt (nxt (ngt (x - 1))) = x := by
  have e : (x - 1 + 9223372036854775808) % 18446744073709551616 = x - 1 - 9223372036854775808 := by omega
  rw [ngt_of (x := x - 1) (by omega), e, nxt_up (by omega) (by omega), ngt_of (by omega)]; omega
/-- The parts make the number. -/
theorem parts_of (x : Nat) (h0 : x % 9223372036854775808 ≠ 0) (h : x % 9223372036854775808 < 9218868437227405312) :
    x % 9223372036854775808 = (sE x + 1074).toNat * 4503599627370496 + sM x ∧ -1074 ≤ sE x ∧ sE x ≤ 971 ∧ 0 < sM x ∧ sM x < 9007199254740992 ∧ (sE x = -1074 ∨ 4503599627370496 ≤ sM x) := by
  have e : fE x = x % 9223372036854775808 / 4503599627370496 ∧ fM x = x % 9223372036854775808 % 4503599627370496 := by unfold fE fM; omega
  obtain ⟨e1, e2⟩ := e
  have hk := kd_of x
  rw [if_neg h0, if_pos h] at hk
  unfold sM sE
  rw [e1, e2]
  generalize x % 9223372036854775808 = r at *
  clear e1 e2
  by_cases h1 : r < 4503599627370496
  · rw [if_pos h1] at hk
    rw [hk, if_neg (by decide), if_pos (by decide), if_neg (by decide), if_pos (by decide)]
    omega
  · rw [if_neg h1] at hk
    rw [hk, if_pos rfl, if_pos rfl]
    omega
theorem near_up {m : Nat} {e : Int} (hm0 : 0 < m) (hm : m < 9007199254740992) (he : -1074 ≤ e) (h : e = -1074 ∨ 4503599627370496 ≤ m) (htop : (e + 1074).toNat * 4503599627370496 + m + 1 < 9218868437227405312) :
    near (m + 1) e false = (e + 1074).toNat * 4503599627370496 + m + 1 := by
  by_cases h1 : m + 1 < 9007199254740992
  · rw [near_parts h1 he (by omega) (by omega), if_neg (by omega)]; omega
  · have hm2 : m + 1 = 4503599627370496 * 2 ^ 1 := by omega
    have s := near_scale 4503599627370496 (e + 1) 1
    rw [← hm2, show e + 1 - ((1 : Nat) : Int) = e by omega] at s
    rw [s, near_parts (by decide) (by omega) (Or.inr (by decide)) (by omega), if_neg (by decide)]; omega
theorem near_low {m : Nat} {e : Int} (hm0 : 0 < m) (hm : m < 9007199254740992) (he : -1074 ≤ e) (h : e = -1074 ∨ 4503599627370496 ≤ m) (htop : e ≤ 971) :
    near (4 * m - 1) (e - 2) true = (e + 1074).toNat * 4503599627370496 + m := by
  have hn : 4 * m - 1 ≠ 0 := by omega
  have fin : bitsOf m e = (e + 1074).toNat * 4503599627370496 + m := bitsOf_fin hm he (by omega)
  rw [near_bits true hn]
  have q2 : rqi (4 * m - 1) 2 true = m := by
    have r := rq_bits (4 * m - 1) 1 true
    unfold rqi
    rw [if_neg (by decide), show (2 : Int).toNat = 1 + 1 from rfl, r, if_pos ⟨by omega, Or.inr (Or.inl rfl)⟩]
    omega
  by_cases hb : e > -1074 ∧ m = 4503599627370496
  · obtain ⟨hb1, hb2⟩ := hb
    have hbl : blen (4 * m - 1) = 54 := blen_of (k := 53) (by rw [hb2]; decide) (by rw [hb2]; decide)
    have hu : ulp (4 * m - 1) (e - 2) = e - 1 := by unfold ulp; rw [hbl]; omega
    have q1 : rqi (4 * m - 1) 1 true = 9007199254740992 := by
      have r := rq_bits (4 * m - 1) 0 true
      unfold rqi
      rw [if_neg (by decide), show (1 : Int).toNat = 0 + 1 from rfl, r, if_pos ⟨by rw [hb2], Or.inr (Or.inl rfl)⟩, hb2]
    rw [hu, show e - 1 - (e - 2) = 1 by omega, q1, bitsOf_top _ (by omega), show e - 1 + 1 = e by omega, ← fin, hb2]
  · have hu : ulp (4 * m - 1) (e - 2) = e := by
      unfold ulp
      by_cases h2 : 4503599627370496 < m
      · have hbl : blen (4 * m - 1) = 55 := blen_of (k := 54) (Nat.le_trans (show (2 : Nat) ^ 54 ≤ 18014398509481984 by decide) (by omega)) (Nat.lt_of_lt_of_le (show 4 * m - 1 < 36028797018963968 by omega) (by decide))
        rw [hbl]; omega
      · have hbl : blen (4 * m - 1) ≤ 54 := blen_le_of_lt (Nat.lt_of_lt_of_le (show 4 * m - 1 < 18014398509481984 by omega) (by decide))
        omega
    rw [hu, show e - (e - 2) = 2 by omega, q2, fin]
theorem two0 (x : Nat) : two 0 (x : Int) = x := by unfold two; omega
theorem word_nat {x : Nat} (h : x < 18446744073709551616) : Word (x : Int) := ⟨by omega, by omega⟩
theorem word_0 : Word 0 := ⟨by omega, by omega⟩
theorem nexts_up (x : Nat) (h0 : 0 < x) (h : x < 9218868437227405311) : Ev (fun k => (float_Join.f k false 0 (IntKind.u64.wrap (((sM x : Nat) : Int) + 1)) (sE x) false).bind fun t245 => (some (((x + 1 : Nat) : Int) == t245))) true := by
  have hm : x % 9223372036854775808 = x := Nat.mod_eq_of_lt (by omega)
  obtain ⟨p1, p2, p3, p4, p5, p6⟩ := parts_of x (by omega) (by omega)
  rw [hm] at p1
  have ew : IntKind.u64.wrap (((sM x : Nat) : Int) + 1) = ((sM x + 1 : Nat) : Int) := by rw [wu (by omega) (by omega)]; rfl
  have j := join_ev false false word_0 (word_nat (x := sM x + 1) (by omega)) (sE x) (by omega)
  rw [two0, near_up p4 p5 p2 p6 (by omega), sgn_false] at j
  rw [ew]
  refine Ev.bind j (Ev.congr (fun k => congrArg some ?_) (Ev.now _))
  rw [p1.symm]; exact beq_self_eq_true _
theorem nexts_down (x : Nat) (h0 : 9223372036854775809 < x) (h : x < 18442240474082181120) : Ev (fun k => (float_Join.f k true 0 (IntKind.u64.wrap ((IntKind.u64.wrap (4 * ((sM x : Nat) : Int))) - 1)) (wrap64 (sE x - 2)) true).bind fun t243 => (if t243 = (x : Int) then (some (decide (((x - 1 : Nat) : Int) < (x : Int)))) else (none))) true := by
  have hm : x % 9223372036854775808 = x - 9223372036854775808 := by omega
  obtain ⟨p1, p2, p3, p4, p5, p6⟩ := parts_of x (by omega) (by omega)
  rw [hm] at p1
  have ew : IntKind.u64.wrap ((IntKind.u64.wrap (4 * ((sM x : Nat) : Int))) - 1) = ((4 * sM x - 1 : Nat) : Int) := by rw [wu (x := 4 * ((sM x : Nat) : Int)) (by omega) (by omega), wu (by omega) (by omega)]; omega
  have ee : wrap64 (sE x - 2) = sE x - 2 := w64 (by omega) (by omega)
  have j := join_ev true true word_0 (word_nat (x := 4 * sM x - 1) (by clear ew; omega)) (sE x - 2) (by clear ew ee; omega)
  rw [two0, near_low p4 p5 p2 p6 p3, ← p1, sgn_true, show x - 9223372036854775808 + 9223372036854775808 = x by clear ew ee; omega] at j
  rw [ew, ee]
  refine Ev.bind j (Ev.congr (fun k => if_pos rfl) (Ev.congr (fun k => congrArg some ?_) (Ev.now _)))
  exact decide_eq_true (by clear ew ee; omega)
theorem FloatNexts (a : Int) (wa : (Lit.int .u64 a).wf = true) : ∃ k, tabardlaw3_FloatNexts.f k a = some true := by
  have h1 := Word.of_wf wa
  obtain ⟨x, rfl⟩ := Int.eq_ofNat_of_zero_le h1.lo
  have h : x < 18446744073709551616 := by have := h1.hi; omega
  apply Ev.rounds
  unfold tabardlaw3_FloatNexts.f
  have n := next_ev x h
  have p := prev_ev x h
  have hp := prev_ev (nxt x) (nxt_lt x h)
  refine Ev.bind shown3 (Ev.congr (fun k => if_pos rfl) (Ev.bind (kind_ev x h) ?_))
  by_cases k4 : kd x = 4
  · have e1 : nxt x = 9221120237041090560 := by unfold nxt; rw [if_pos k4]
    have b : kd 9221120237041090560 = 4 := (kd4 _).2 (by decide)
    have e2 : ngt (nxt (ngt x)) = 9221120237041090560 := by
      have a : ngt x = 9221120237041090560 := by unfold ngt; rw [if_pos k4]
      have c : nxt 9221120237041090560 = 9221120237041090560 := by unfold nxt; rw [if_pos b]
      rw [a, c]; unfold ngt; rw [if_pos b]
    rw [e1] at n
    rw [e2] at p
    exact Ev.congr (fun k => if_pos k4) (Ev.bind n (Ev.congr (fun k => if_pos rfl) (Ev.bind p (Ev.congr (fun k => congrArg some (beq_self_eq_true _)) (Ev.now _)))))
  refine Ev.congr (fun k => if_neg k4) (Ev.bind n (Ev.bind (kind_ev x h) ?_))
  have r4 : ¬ 9218868437227405312 < x % 9223372036854775808 := fun hh => k4 ((kd4 x).2 hh)
  by_cases k0 : kd x = 0
  · have e1 : nxt x = 1 := by unfold nxt; rw [if_neg k4, if_pos k0]
    have r0 := (kd0 x).1 k0
    have e2 : ngt (nxt (ngt x)) = 9223372036854775809 := by
      have a : ngt x = (x + 9223372036854775808) % 18446744073709551616 := ngt_of (by omega)
      have b : kd ((x + 9223372036854775808) % 18446744073709551616) = 0 := (kd0 _).2 (by omega)
      have c : nxt ((x + 9223372036854775808) % 18446744073709551616) = 1 := by unfold nxt; rw [if_neg (by rw [b]; decide), if_pos b]
      rw [a, c, ngt_of (by decide)]
    rw [e1]
    rw [e2] at p
    exact Ev.congr (fun k => if_pos k0) (Ev.congr (fun k => if_pos rfl) (Ev.bind p (Ev.congr (fun k => congrArg some (beq_self_eq_true _)) (Ev.now _))))
  have r0 : x % 9223372036854775808 ≠ 0 := fun hh => k0 ((kd0 x).2 hh)
  refine Ev.congr (fun k => if_neg k0) ?_
  by_cases hi : x = 9218868437227405312
  · have e1 : nxt x = x := by unfold nxt; rw [if_neg k4, if_neg k0, if_pos hi]
    have e2 : ngt (nxt (ngt x)) = 9218868437227405311 := by
      have a : ngt x = 18442240474082181120 := by rw [ngt_of (x := x) (by omega)]; omega
      rw [a, nxt_down (by decide) (by decide), ngt_of (by decide)]
    rw [e1]
    rw [e2] at p
    exact Ev.congr (fun k => if_pos (show (x : Int) = 9218868437227405312 by omega)) (Ev.congr (fun k => if_pos rfl) (Ev.bind p (Ev.congr (fun k => congrArg some (beq_self_eq_true _)) (Ev.now _))))
  refine Ev.congr (fun k => if_neg (show ¬ (x : Int) = 9218868437227405312 by omega)) ?_
  have sp := split_ev x h
  have ky := kind_ev (nxt x) (nxt_lt x h)
  by_cases hs : x < 9223372036854775808
  · have hx : x % 9223372036854775808 = x := Nat.mod_eq_of_lt hs
    rw [hx] at r0 r4
    have e1 : nxt x = x + 1 := nxt_up (by omega) (by omega)
    rw [e1, back_up (by omega) (by omega)] at hp
    rw [e1] at ky ⊢
    refine Ev.congr (fun k => if_neg (show ¬ ((x + 1 : Nat) : Int) = 9223372036854775808 by omega)) (Ev.bind sp (Ev.bind (kind_ev x h) ?_))
    refine Ev.congr (fun k => if_neg (fun k3 => by have := (kd3 x).1 k3; omega)) (Ev.bind ky ?_)
    by_cases k3 : kd (x + 1) = 3
    · have := (kd3 (x + 1)).1 k3
      have hx2 : x = 9218868437227405311 := by omega
      refine Ev.congr (fun k => if_pos k3) (Ev.bind hp (Ev.congr (fun k => if_pos rfl) (Ev.congr (fun k => if_neg (show ¬ (x : Int) = 18442240474082181120 by omega)) ?_)))
      rw [hx2]; exact Ev.now _
    · have hx2 : x < 9218868437227405311 := by
        rcases Nat.lt_or_ge x 9218868437227405311 with hh | hh
        · exact hh
        · exact absurd ((kd3 (x + 1)).2 (by omega)) k3
      refine Ev.congr (fun k => if_neg k3) (Ev.congr (fun k => if_neg (fun hh => by have := of_decide_eq_true hh; omega)) (Ev.bind hp (Ev.congr (fun k => if_pos rfl) ?_)))
      exact nexts_up x (by omega) hx2
  · have hx : x % 9223372036854775808 = x - 9223372036854775808 := by omega
    rw [hx] at r0 r4
    have e1 : nxt x = x - 1 := nxt_down (by omega) (by omega)
    rw [e1] at hp ky ⊢
    by_cases hz : x = 9223372036854775809
    · rw [hz]; exact Ev.congr (fun k => if_pos rfl) (Ev.now _)
    rw [back_down (by omega) (by omega)] at hp
    refine Ev.congr (fun k => if_neg (show ¬ ((x - 1 : Nat) : Int) = 9223372036854775808 by omega)) (Ev.bind sp (Ev.bind (kind_ev x h) ?_))
    by_cases k3 : kd x = 3
    · have := (kd3 x).1 k3
      have hx2 : x = 18442240474082181120 := by omega
      refine Ev.congr (fun k => if_pos k3) (Ev.bind hp (Ev.congr (fun k => if_pos rfl) (Ev.congr (fun k => if_pos (show (x : Int) = 18442240474082181120 by omega)) (Ev.now _))))
    · have hx2 : x < 18442240474082181120 := by
        rcases Nat.lt_or_ge x 18442240474082181120 with hh | hh
        · exact hh
        · exact absurd ((kd3 x).2 (by omega)) k3
      refine Ev.congr (fun k => if_neg k3) (Ev.bind ky (Ev.congr (fun k => if_neg (fun k3 => by have := (kd3 (x - 1)).1 k3; omega)) ?_))
      refine Ev.congr (fun k => if_pos (decide_eq_true (by omega))) (Ev.bind hp (Ev.congr (fun k => if_pos rfl) ?_))
      exact nexts_down x (by omega) hx2
end Go.Proofs.Ytbejjlecpcphoaa.Q
