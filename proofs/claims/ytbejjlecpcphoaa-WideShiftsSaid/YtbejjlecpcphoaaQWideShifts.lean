/-
  WideShifts: shifts, quotients and roots of package wide are the reference's. No condition.
-/
import Derived.Test.YtbejjlecpcphoaaPx40
import Derived.Test.YtbejjlecpcphoaaQ8
import Derived.Test.YtbejjlecpcphoaaQ10
import Derived.Test.YtbejjlecpcphoaaQ6a
import Derived.Test.YtbejjlecpcphoaaQ6r
import Derived.Test.YtbejjlecpcphoaaQ6w
import Derived.Test.YtbejjlecpcphoaaQShown2
namespace Go.Proofs.Ytbejjlecpcphoaa.Q
set_option linter.unusedVariables false
open Go.RowKit Go.Proofs.YtbejjlecpcphoaaW.PrintWords Go.Proofs.YtbejjlecpcphoaaW.PrintLast Go.Proofs.YtbejjlecpcphoaaW.PrintMore
open Go.Proofs.Ytbejjlecpcphoaa.P Go.Proofs.Ytbejjlecpcphoaa.LL Go.Proofs.Ytbejjlecpcphoaa.FM

theorem lnat_ev {a b : Int} (h1 : Word a) (h2 : Word b) : Ev (fun k => tabardlaw2_nat.f k a b) (limbs (two a b)) := by
  have h := nat_ev (a := 0) (by decide) (by decide) h1.lo h1.hi h2.lo h2.hi
  have e : b.toNat + 18446744073709551616 * a.toNat + 340282366920938463463374607431768211456 * (0 : Int).toNat = two a b := by
    unfold two; simp; omega
  rw [e] at h
  unfold tabardlaw2_nat.f
  exact Ev.bind h (Ev.now _)
theorem rnat_ev {a : Int} (h1 : Word a) : Ev (fun k => tabardref2_Nat.f k 0 0 a) (limbs a.toNat) := by
  have h := nat_ev (a := 0) (b := 0) (by decide) (by decide) (by decide) (by decide) h1.lo h1.hi
  have e : a.toNat + 18446744073709551616 * (0 : Int).toNat + 340282366920938463463374607431768211456 * (0 : Int).toNat = a.toNat := by simp
  rwa [e] at h
theorem p128 : (2 : Nat) ^ (32 * 4) = 340282366920938463463374607431768211456 := by decide
theorem lis_ev {n : Nat} (h : n < 340282366920938463463374607431768211456) : Ev (fun k => tabardlaw2_is.f k (hiW n) (loW n) (limbs n)) true := by
  have p1 := part_ev (lb_limbs n) 1 (by decide)
  have p0 := part_ev (lb_limbs n) 0 (by decide)
  have l4 : (limbs n).length ≤ 4 := limbs_len_le (by rw [p128]; exact h)
  rw [val_limbs] at p1 p0
  have e1 : ((n / 2 ^ (64 * 1) % 18446744073709551616 : Nat) : Int) = hiW n := by
    unfold hiW; rw [Nat.mul_one, p64]
  have e0 : ((n / 2 ^ (64 * 0) % 18446744073709551616 : Nat) : Int) = loW n := by
    unfold loW; rw [Nat.mul_zero, Nat.pow_zero, Nat.div_one]
  rw [e1] at p1
  rw [e0] at p0
  unfold tabardlaw2_is.f
  refine Ev.bind p1 (Ev.congr (fun k => if_pos rfl) (Ev.bind p0 (Ev.congr (fun k => if_pos rfl) ?_)))
  rw [decide_eq_true (by omega)]
  exact Ev.now _
theorem hiW_mod {n m : Nat} (h : n % 340282366920938463463374607431768211456 = m) : hiW n = hiW m ∧ loW n = loW m := by
  unfold hiW loW; omega
theorem word_limbs {n : Nat} (h : n < 18446744073709551616) : (limbs n).length ≤ 2 := limbs_len_le (m := 2) (Nat.lt_of_lt_of_le h (by decide))
theorem bne_self (b : Bool) : ¬ (b != b) = true := by cases b <;> decide
/-- The last part: the roots. -/
theorem shifts_root {a b : Int} (h1 : Word a) (h2 : Word b) :
    Ev (fun k => (wide_Root.f k a b).bind fun bt681 => ((tabardref2_Root.f k (limbs (two a b))).bind fun t683 => ((tabardref2_Nat.f k 0 0 t683).bind fun t684 => (if bt681.1 = t683 then ((tabardref1_Times.f k t684 t684).bind fun t687 => ((tabardref1_Cmp.f k t687 (limbs (two a b))).bind fun t690 => (some (bt681.2 == (t690 == 0))))) else (none))))) true := by
  have hx := two_lt h1 h2
  have l4 : (limbs (two a b)).length ≤ 4 := limbs_len_le (by rw [p128]; exact hx)
  obtain ⟨r, r1, r2, r3, r4⟩ := wroot_ev h1 h2
  obtain ⟨s, s1, s2, s3, s4⟩ := rroot_ev (lb_limbs (two a b)) (by omega) (by rw [val_limbs]; exact hx)
  rw [val_limbs] at s2 s3
  have ers : r = s := root_unique r2 r3 s2 s3
  subst ers
  have hw : Word (r : Int) := ⟨Int.natCast_nonneg _, by omega⟩
  have n1 := rnat_ev hw
  rw [Int.toNat_natCast] at n1
  have hl := word_limbs r1
  have t1 := rtimes_ev (lb_limbs r) (lb_limbs r) (by omega) (by omega)
  rw [val_limbs] at t1
  have hrr : (limbs (r * r)).length ≤ 4 := limbs_len_le (by rw [p128]; exact Nat.lt_of_le_of_lt r2 hx)
  have c1 := cmp_ev (lb_limbs (r * r)) (lb_limbs (two a b)) (by omega) (by omega)
  rw [val_limbs, val_limbs] at c1
  refine Ev.bind r4 (Ev.bind s4 (Ev.bind n1 (Ev.congr (fun k => if_pos rfl) (Ev.bind t1 (Ev.bind c1 ?_)))))
  have e : (decide (r * r = two a b) == (cmpN (r * r) (two a b) == 0)) = true := by
    by_cases h : r * r = two a b
    · rw [decide_eq_true h, cmpN_zero.2 h]; rfl
    · have hz : ¬ cmpN (r * r) (two a b) = 0 := fun h2 => h (cmpN_zero.1 h2)
      rw [decide_eq_false h, beq_false_of_ne hz]; rfl
  exact Ev.congr (fun k => congrArg some e) (Ev.now _)
theorem WideShifts (a b d n : Int) (wa : (Lit.int .u64 a).wf = true) (wb : (Lit.int .u64 b).wf = true) (wd : (Lit.int .u64 d).wf = true) (wn : (Lit.int .i64 n).wf = true) : ∃ k, tabardlaw2_WideShifts.f k a b d n = some true := by
  have h1 := Word.of_wf wa
  have h2 := Word.of_wf wb
  have h3 := Word.of_wf wd
  have hn := int_of_wf wn
  have hx := two_lt h1 h2
  have l4 : (limbs (two a b)).length ≤ 4 := limbs_len_le (by rw [p128]; exact hx)
  have m1 := lnat_ev h1 h2
  have s1 := wshr_ev h1 h2 hn.2
  have s2 := rshr_ev (V := two a b) (by omega) n
  have s3 := wshl_eq h1 h2 hn.2
  have s4 := rshl_ev l4 n
  have i1 := lis_ev (n := two a b * 2 ^ n.toNat % 340282366920938463463374607431768211456) (Nat.mod_lt _ (by decide))
  have i2 := lis_ev (n := two a b / 2 ^ n.toNat) (Nat.lt_of_le_of_lt (Nat.div_le_self _ _) hx)
  obtain ⟨e1, e2⟩ := hiW_mod (n := two a b * 2 ^ n.toNat) rfl
  rw [← e1, ← e2] at i1
  apply Ev.rounds
  unfold tabardlaw2_WideShifts.f
  refine Ev.bind shown2 (Ev.congr (fun k => if_pos rfl) (Ev.bind m1 (Ev.bind s1 (Ev.bind s2 (Ev.congr (fun k => bind_eq s3 _) (Ev.bind s4 (Ev.bind i1 (Ev.bind i2 ?_))))))))
  by_cases hd : 0 < d
  · have d1 := wdiv_ev h1 h2 h3 hd
    have hd0 : 0 < d.toNat := by omega
    have hd1 : d.toNat < 18446744073709551616 := by have := h3.hi; omega
    have n1 := rnat_ev h3
    have q1 := parts2_ev (V := two a b) (Y := d.toNat) (by omega) (by have := word_limbs hd1; omega) hd0
    have i3 := lis_ev (n := two a b / d.toNat) (Nat.lt_of_le_of_lt (Nat.div_le_self _ _) hx)
    have hr : two a b % d.toNat < d.toNat := Nat.mod_lt _ hd0
    have p0 := part_ev (lb_limbs (two a b % d.toNat)) 0 (by decide)
    rw [val_limbs, Nat.mul_zero, Nat.pow_zero, Nat.div_one, Nat.mod_eq_of_lt (Nat.lt_trans hr hd1)] at p0
    have hne : (d == 0) = false := beq_false_of_ne (by omega)
    refine Ev.bind d1 (Ev.congr (fun k => if_pos rfl) (Ev.congr (fun k => if_pos rfl) (Ev.congr (fun k => if_neg (bne_self _)) ?_)))
    refine Ev.congr (fun k => if_neg (by rw [hne]; simp)) (Ev.congr (fun k => if_pos hd) (Ev.bind n1 (Ev.bind q1 (Ev.bind i3 ?_))))
    refine Ev.congr (fun k => if_pos rfl) (Ev.bind p0 (Ev.congr (fun k => if_pos rfl) (Ev.congr (fun k => if_pos rfl) ?_)))
    exact shifts_root h1 h2
  · have hz : d = 0 := by have := h3.lo; omega
    have d1 : ∀ k, wide_Div.f k a b d = some (0, 0, 0, 10) := fun k => by unfold wide_Div.f; rw [if_pos hz]
    refine Ev.congr (fun k => bind_eq (d1 k) _) (Ev.congr (fun k => if_pos rfl) (Ev.congr (fun k => if_pos rfl) (Ev.congr (fun k => if_neg (bne_self _)) ?_)))
    refine Ev.congr (fun k => if_neg (by rw [hz]; decide)) (Ev.congr (fun k => if_neg (show ¬ d > 0 from hd)) ?_)
    exact shifts_root h1 h2
end Go.Proofs.Ytbejjlecpcphoaa.Q
