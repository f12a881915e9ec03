/-
  WideBack: what package wide undoes, it undoes. No condition.
-/
import Derived.Test.YtbejjlecpcphoaaPx42
import Derived.Test.YtbejjlecpcphoaaQ8
import Derived.Test.YtbejjlecpcphoaaQShown2
namespace Go.Proofs.Ytbejjlecpcphoaa.Q
set_option linter.unusedVariables false
open Go.RowKit Go.Proofs.YtbejjlecpcphoaaW.PrintWords Go.Proofs.YtbejjlecpcphoaaW.PrintLast Go.Proofs.YtbejjlecpcphoaaW.PrintMore
open Go.Proofs.Ytbejjlecpcphoaa.P Go.Proofs.Ytbejjlecpcphoaa.LL Go.Proofs.Ytbejjlecpcphoaa.FM

theorem same2 (a b : Int) : ((!(a == a) || (!(b == b))) = true) = False := by simp
theorem eq2 (a b : Int) : (a == a && (b == b)) = true := by simp
theorem hiW_eq {n m : Nat} (h : n = m) : hiW n = hiW m := by rw [h]
theorem back_j3 {a b : Int} (h1 : Word a) (h2 : Word b) (s : Nat) (hs : s < 64) : Ev (fun k => tabardlaw2_WideBack.j3 k (s : Int) false a b) true := by
  have hl : blen (two a b) ≤ 128 := blen_le_of_lt (Nat.lt_of_lt_of_le (two_lt h1 h2) (by decide))
  refine Ev.step (f := fun k => (wide_Len.f k a b).bind fun t769 => (if (wrap64 (t769 + (s : Int))) > 128 then (some true) else ((wide_Shl.f a b (s : Int)).bind fun bt770 => ((wide_Shr.f k bt770.1 bt770.2 (s : Int)).bind fun bt772 => (if (bt772.1 == a && (bt772.2.1 == b)) = true then (some (!bt772.2.2)) else (none)))))) (fun k => ?_) ?_
  · simp only [tabardlaw2_WideBack.j3]
    rw [if_neg (by simp)]
  refine Ev.bind (wlen_ev h1 h2) ?_
  have e : wrap64 (((blen (two a b) : Nat) : Int) + (s : Int)) = ((blen (two a b) + s : Nat) : Int) := by rw [w64 (by omega) (by omega)]; omega
  rw [e]
  clear e
  by_cases h : ((blen (two a b) + s : Nat) : Int) > 128
  · exact Ev.congr (fun k => if_pos h) (Ev.now _)
  · have hx : two a b * 2 ^ s < 340282366920938463463374607431768211456 := by
      have := Nat.mul_lt_mul_of_pos_right (lt_blen (two a b)) (Nat.two_pow_pos s)
      rw [← Nat.pow_add] at this
      exact Nat.lt_of_lt_of_le this (Nat.le_trans (Nat.pow_le_pow_right (by decide) (show blen (two a b) + s ≤ 128 by omega)) (by decide))
    have s1 := wshl_eq h1 h2 (n := (s : Int)) (by omega)
    rw [Int.toNat_natCast] at s1
    have s2 := wshr_ev (hiW_word (two a b * 2 ^ s)) (loW_word (two a b * 2 ^ s)) (n := (s : Int)) (by omega)
    rw [Int.toNat_natCast, two_hilo hx, Nat.mul_div_cancel _ (Nat.two_pow_pos s), Nat.mul_mod_left, hiW_two h1 h2, loW_two h1 h2] at s2
    exact Ev.congr (fun k => if_neg h) (Ev.congr (fun k => bind_eq s1 _) (Ev.bind s2 (Ev.congr (fun k => if_pos (eq2 a b)) (Ev.now _))))
theorem prod192 {a b : Int} (h1 : Word a) (h2 : Word b) {m : Nat} (h : m < 18446744073709551616) : two a b * m < 6277101735386680763835789423207666416102355444464034512896 :=
  Nat.lt_of_le_of_lt (Nat.mul_le_mul (show two a b ≤ 340282366920938463463374607431768211455 from Nat.le_of_lt_succ (two_lt h1 h2)) (show m ≤ 18446744073709551615 by omega)) (by decide)
theorem back_j2 {a b : Int} (h1 : Word a) (h2 : Word b) (s : Nat) (hs : s < 64) : Ev (fun k => tabardlaw2_WideBack.j2 k (s : Int) a b) true := by
  have es : IntKind.u64.wrap (s : Int) = (s : Int) := wu (by omega) (by omega)
  have hp : 2 ^ s < 18446744073709551616 := Nat.lt_of_lt_of_le (Nat.pow_lt_pow_right (by decide) hs) (by decide)
  have e1 : shl .u64 1 (s : Int) = ((2 ^ s : Nat) : Int) := by
    have := shl_nat 1 s (by omega)
    rw [Nat.one_mul, Nat.mod_eq_of_lt hp] at this
    exact this
  have t1 := times_eq h1 h2 (c := ((2 ^ s : Nat) : Int)) ⟨Int.natCast_nonneg _, Int.ofNat_lt.2 hp⟩
  rw [Int.toNat_natCast] at t1
  have d1 := drop_ev (w2_word (two a b * 2 ^ s)) (hiW_word (two a b * 2 ^ s)) (loW_word (two a b * 2 ^ s)) (n := (s : Int)) (by omega)
  rw [Int.toNat_natCast, three_parts (prod192 h1 h2 hp), Nat.mul_div_cancel _ (Nat.two_pow_pos s), Nat.mul_mod_left, hiW_two h1 h2, loW_two h1 h2, two_div (two_lt h1 h2)] at d1
  refine Ev.step (f := fun k => (wide_Times.f a b ((2 ^ s : Nat) : Int)).bind fun bt759 => ((wide_Drop.f k bt759.1 bt759.2.1 bt759.2.2 (s : Int)).bind fun bt762 => ((wide_Low.f bt762.1 bt762.2.1 bt762.2.2.1).bind fun bt767 => (if (!(bt767.1 == a) || (!(bt767.2 == b))) = true then (tabardlaw2_WideBack.j3 k (s : Int) true a b) else (if bt762.1 = 0 then (tabardlaw2_WideBack.j3 k (s : Int) bt762.2.2.2 a b) else (tabardlaw2_WideBack.j3 k (s : Int) true a b)))))) (fun k => ?_) ?_
  · simp only [tabardlaw2_WideBack.j2]
    rw [es, if_pos (Int.natCast_nonneg _), e1]
  refine Ev.congr (fun k => bind_eq t1 _) (Ev.bind d1 (Ev.congr (fun k => bind_eq (low_eq _ _ _) _) (Ev.congr (fun k => if_neg (by rw [same2]; exact id)) (Ev.congr (fun k => if_pos rfl) ?_))))
  exact back_j3 h1 h2 s hs
theorem back_j1 {a b : Int} (h1 : Word a) (h2 : Word b) (n : Int) : Ev (fun k => tabardlaw2_WideBack.j1 k n a b) true := by
  have l1 : Int.tmod n 64 < 64 := Int.tmod_lt_of_pos n (by decide)
  have l2 : -64 < Int.tmod n 64 := by
    rw [Int.tmod_eq_emod]; split <;> omega
  by_cases h : Int.tmod n 64 < 0
  · obtain ⟨s, hs⟩ := Int.eq_ofNat_of_zero_le (show 0 ≤ -(Int.tmod n 64) by omega)
    have e : wrap64 (-(Int.tmod n 64)) = (s : Int) := by rw [hs, w64 (by omega) (by omega)]
    refine Ev.step (fun k => ?_) (back_j2 h1 h2 s (by omega))
    simp only [tabardlaw2_WideBack.j1]
    rw [if_pos h, e]
  · obtain ⟨s, hs⟩ := Int.eq_ofNat_of_zero_le (show 0 ≤ Int.tmod n 64 by omega)
    refine Ev.step (fun k => ?_) (back_j2 h1 h2 s (by omega))
    simp only [tabardlaw2_WideBack.j1]
    rw [if_neg h, hs]
theorem two_0 (x : Int) : two 0 x = x.toNat := by unfold two; omega
theorem back_arith {a b d : Int} (h1 : Word a) (h2 : Word b) (h3 : Word d) (h : d > 0) :
    wide_Times.f (hiW (two a b / d.toNat)) (loW (two a b / d.toNat)) d = some (0, hiW (two a b / d.toNat * d.toNat), loW (two a b / d.toNat * d.toNat)) ∧
    wide_Add.f (hiW (two a b / d.toNat * d.toNat)) (loW (two a b / d.toNat * d.toNat)) 0 ((two a b % d.toNat : Nat) : Int) = some (a, b, false) ∧ ¬ ((two a b % d.toNat : Nat) : Int) ≥ d := by
  have hx := two_lt h1 h2
  have hd0 : 0 < d.toNat := by omega
  have hq : two a b / d.toNat < 340282366920938463463374607431768211456 := Nat.lt_of_le_of_lt (Nat.div_le_self _ _) hx
  have t1 := times_eq (hiW_word (two a b / d.toNat)) (loW_word (two a b / d.toNat)) h3
  have hle : two a b / d.toNat * d.toNat ≤ two a b := Nat.div_mul_le_self _ _
  have hr : two a b % d.toNat < d.toNat := Nat.mod_lt _ hd0
  have hd : d.toNat < 18446744073709551616 := by have := h3.hi; omega
  have e3 : two a b / d.toNat * d.toNat + two a b % d.toNat = two a b := by rw [Nat.mul_comm]; exact Nat.div_add_mod _ _
  have hpl : two a b / d.toNat * d.toNat < 340282366920938463463374607431768211456 := Nat.lt_of_le_of_lt hle hx
  rw [two_hilo hq] at t1
  generalize two a b / d.toNat = q at *
  generalize two a b % d.toNat = r at *
  generalize q * d.toNat = p at *
  have hrw : Word (r : Int) := ⟨Int.natCast_nonneg _, by omega⟩
  have a1 := add_eq (hiW_word p) (loW_word p) (c := 0) ⟨by decide, by decide⟩ hrw
  have e2 : two 0 (r : Int) = r := (two_0 _).trans (Int.toNat_natCast r)
  rw [two_hilo hpl, e2, e3, hiW_two h1 h2, loW_two h1 h2, decide_eq_false (Nat.not_le.2 hx)] at a1
  rw [two_div hpl] at t1
  exact ⟨t1, a1, by omega⟩
theorem back_j0 {a b c d : Int} (h1 : Word a) (h2 : Word b) (h3 : Word d) (n : Int) : Ev (fun k => tabardlaw2_WideBack.j0 k n false a b c d) true := by
  by_cases h : d > 0
  · have d1 := wdiv_ev h1 h2 h3 h
    obtain ⟨t1, a1, hlt⟩ := back_arith h1 h2 h3 h
    generalize hiW (two a b / d.toNat) = q1 at *
    generalize loW (two a b / d.toNat) = q0 at *
    generalize hiW (two a b / d.toNat * d.toNat) = p1 at *
    generalize loW (two a b / d.toNat * d.toNat) = p0 at *
    generalize two a b % d.toNat = r at *
    refine Ev.step (f := fun k => (wide_Div.f k a b d).bind fun bt744 => ((wide_Times.f bt744.1 bt744.2.1 d).bind fun bt749 => ((wide_Low.f bt749.1 bt749.2.1 bt749.2.2).bind fun bt753 => ((wide_Add.f bt753.1 bt753.2 0 bt744.2.2.1).bind fun bt755 => (if bt749.1 = 0 then (if bt755.2.2 = true then (none) else (if (!(bt755.1 == a) || (!(bt755.2.1 == b))) = true then (none) else (if bt744.2.2.1 ≥ d then (none) else (tabardlaw2_WideBack.j1 k n a b)))) else (none)))))) (fun k => ?_) ?_
    · simp only [tabardlaw2_WideBack.j0]
      rw [if_neg (by simp), if_pos h]
    refine Ev.bind d1 (Ev.congr (fun k => bind_eq t1 _) (Ev.congr (fun k => bind_eq (low_eq _ _ _) _) (Ev.congr (fun k => bind_eq a1 _) ?_)))
    refine Ev.congr (fun k => if_pos rfl) (Ev.congr (fun k => if_neg (by simp)) (Ev.congr (fun k => if_neg (by rw [same2]; exact id)) (Ev.congr (fun k => if_neg hlt) ?_)))
    exact back_j1 h1 h2 n
  · refine Ev.step (fun k => ?_) (back_j1 h1 h2 n)
    simp only [tabardlaw2_WideBack.j0]
    rw [if_neg (by simp), if_neg h]
theorem WideBack (a b c d n : Int) (wa : (Lit.int .u64 a).wf = true) (wb : (Lit.int .u64 b).wf = true) (wc : (Lit.int .u64 c).wf = true) (wd : (Lit.int .u64 d).wf = true) (wn : (Lit.int .i64 n).wf = true) : ∃ k, tabardlaw2_WideBack.f k a b c d n = some true := by
  have h1 := Word.of_wf wa
  have h2 := Word.of_wf wb
  have h3 := Word.of_wf wc
  have h4 := Word.of_wf wd
  have hx := two_lt h1 h2
  have hy := two_lt h3 h4
  have a1 := add_eq h1 h2 h3 h4
  have s1 := sub_eq (hiW_word (two a b + two c d)) (loW_word (two a b + two c d)) h3 h4
  have em : two (hiW (two a b + two c d)) (loW (two a b + two c d)) = (two a b + two c d) % 340282366920938463463374607431768211456 := by
    unfold hiW loW; generalize two a b + two c d = z; unfold two; omega
  rw [em] at s1
  have e1 : hiW ((two a b + two c d) % 340282366920938463463374607431768211456 + 340282366920938463463374607431768211456 - two c d) = a ∧ loW ((two a b + two c d) % 340282366920938463463374607431768211456 + 340282366920938463463374607431768211456 - two c d) = b := by
    have h : ((two a b + two c d) % 340282366920938463463374607431768211456 + 340282366920938463463374607431768211456 - two c d) % 340282366920938463463374607431768211456 = two a b := by omega
    have g1 : ∀ z, hiW z = hiW (z % 340282366920938463463374607431768211456) ∧ loW z = loW (z % 340282366920938463463374607431768211456) := by
      intro z; unfold hiW loW; omega
    rw [(g1 _).1, (g1 (_ - _)).2, h, hiW_two h1 h2, loW_two h1 h2]
    exact ⟨rfl, rfl⟩
  have e2 : (decide (340282366920938463463374607431768211456 ≤ two a b + two c d) != decide ((two a b + two c d) % 340282366920938463463374607431768211456 < two c d)) = false := by
    by_cases h : 340282366920938463463374607431768211456 ≤ two a b + two c d
    · rw [decide_eq_true h, decide_eq_true (by omega)]; rfl
    · rw [decide_eq_false h, decide_eq_false (by omega)]; rfl
  rw [e1.1, e1.2] at s1
  apply Ev.rounds
  unfold tabardlaw2_WideBack.f
  refine Ev.bind shown2 (Ev.congr (fun k => if_pos rfl) (Ev.congr (fun k => bind_eq a1 _) (Ev.congr (fun k => bind_eq s1 _) (Ev.congr (fun k => if_neg (by rw [same2]; exact id)) ?_))))
  have := back_j0 (c := c) h1 h2 h4 n
  rw [← e2] at this
  exact this
end Go.Proofs.Ytbejjlecpcphoaa.Q
