/-
  WideTimes: the product of two words and one, and what is dropped of three words, are the reference's. No condition.
-/
import Derived.Test.YtbejjlecpcphoaaPx41
import Derived.Test.YtbejjlecpcphoaaQ8
import Derived.Test.YtbejjlecpcphoaaQ9
import Derived.Test.YtbejjlecpcphoaaQ6a
import Derived.Test.YtbejjlecpcphoaaQ1
import Derived.Test.YtbejjlecpcphoaaQShown2
namespace Go.Proofs.Ytbejjlecpcphoaa.Q
set_option linter.unusedVariables false
open Go.RowKit Go.Proofs.YtbejjlecpcphoaaW.PrintWords Go.Proofs.YtbejjlecpcphoaaW.PrintLast Go.Proofs.YtbejjlecpcphoaaW.PrintMore
open Go.Proofs.Ytbejjlecpcphoaa.P Go.Proofs.Ytbejjlecpcphoaa.LL Go.Proofs.Ytbejjlecpcphoaa.FM

theorem limbs_short {n m : Nat} (h : n < 2 ^ (32 * m)) (hm : m < 1000000) : (limbs n).length < 1000000 := Nat.lt_of_le_of_lt (limbs_len_le h) hm
theorem eq2 (a b : Int) : (a == a && (b == b)) = true := by simp
theorem rnat3_ev {a b c : Int} (h1 : Word a) (h2 : Word b) (h3 : Word c) : Ev (fun k => tabardref2_Nat.f k a b c) (limbs (three a b c)) := by
  have h := nat_ev h1.lo h1.hi h2.lo h2.hi h3.lo h3.hi
  have e : c.toNat + 18446744073709551616 * b.toNat + 340282366920938463463374607431768211456 * a.toNat = three a b c := by
    unfold three; omega
  rwa [e] at h
theorem lnat_ev {a b : Int} (h1 : Word a) (h2 : Word b) : Ev (fun k => tabardlaw2_nat.f k a b) (limbs (two a b)) := by
  have h := rnat3_ev (a := 0) ⟨by decide, by decide⟩ h1 h2
  rw [three_0] at h
  unfold tabardlaw2_nat.f
  exact Ev.bind h (Ev.now _)
theorem three_lt {a b c : Int} (h1 : Word a) (h2 : Word b) (h3 : Word c) : three a b c < 6277101735386680763835789423207666416102355444464034512896 := by
  have := h1.lo; have := h1.hi; have := h2.lo; have := h2.hi; have := h3.lo; have := h3.hi
  unfold three; omega
theorem parts_ev (n : Nat) : Ev (fun k => tabardref2_Part.f k (limbs n) 2) (w2 n) ∧ Ev (fun k => tabardref2_Part.f k (limbs n) 1) (hiW n) ∧ Ev (fun k => tabardref2_Part.f k (limbs n) 0) (loW n) := by
  have p2 := part_ev (lb_limbs n) 2 (by decide)
  have p1 := part_ev (lb_limbs n) 1 (by decide)
  have p0 := part_ev (lb_limbs n) 0 (by decide)
  rw [val_limbs] at p2 p1 p0
  have e2 : ((n / 2 ^ (64 * 2) % 18446744073709551616 : Nat) : Int) = w2 n := by unfold w2; rw [show (2 : Nat) ^ (64 * 2) = 340282366920938463463374607431768211456 from by decide]
  have e1 : ((n / 2 ^ (64 * 1) % 18446744073709551616 : Nat) : Int) = hiW n := by unfold hiW; rw [Nat.mul_one, p64]
  have e0 : ((n / 2 ^ (64 * 0) % 18446744073709551616 : Nat) : Int) = loW n := by unfold loW; rw [Nat.mul_zero, Nat.pow_zero, Nat.div_one]
  rw [e2] at p2
  rw [e1] at p1
  rw [e0] at p0
  exact ⟨p2, p1, p0⟩
theorem WideTimes (a b c x y z n : Int) (wa : (Lit.int .u64 a).wf = true) (wb : (Lit.int .u64 b).wf = true) (wc : (Lit.int .u64 c).wf = true) (wx : (Lit.int .u64 x).wf = true) (wy : (Lit.int .u64 y).wf = true) (wz : (Lit.int .u64 z).wf = true) (wn : (Lit.int .i64 n).wf = true) : ∃ k, tabardlaw2_WideTimes.f k a b c x y z n = some true := by
  have h1 := Word.of_wf wa
  have h2 := Word.of_wf wb
  have h3 := Word.of_wf wc
  have k1 := Word.of_wf wx
  have k2 := Word.of_wf wy
  have k3 := Word.of_wf wz
  have hn := int_of_wf wn
  have hab := two_lt h1 h2
  have hxyz := three_lt k1 k2 k3
  have hc : c.toNat < 18446744073709551616 := by have := h3.hi; have := h3.lo; omega
  have t1 := times_eq h1 h2 h3
  have m1 := lnat_ev h1 h2
  have m2 := rnat3_ev (a := 0) (b := 0) ⟨by decide, by decide⟩ ⟨by decide, by decide⟩ h3
  have e0 : three 0 0 c = c.toNat := by unfold three; omega
  rw [e0] at m2
  have r1 := rtimes_ev (lb_limbs (two a b)) (lb_limbs c.toNat) (limbs_short (m := 4) (Nat.lt_of_lt_of_le hab (by decide)) (by decide)) (limbs_short (m := 2) (Nat.lt_of_lt_of_le hc (by decide)) (by decide))
  rw [val_limbs, val_limbs] at r1
  have d1 := drop_ev k1 k2 k3 hn.2
  have m3 := rnat3_ev k1 k2 k3
  have s1 := rshr_ev (V := three x y z) (Nat.le_trans (limbs_len_le (m := 6) (Nat.lt_of_lt_of_le hxyz (by decide))) (by decide)) n
  obtain ⟨p2, p1, p0⟩ := parts_ev (two a b * c.toNat)
  obtain ⟨q2, q1, q0⟩ := parts_ev (three x y z / 2 ^ n.toNat)
  apply Ev.rounds
  unfold tabardlaw2_WideTimes.f
  refine Ev.bind shown2 (Ev.congr (fun k => if_pos rfl) (Ev.congr (fun k => bind_eq t1 _) (Ev.bind m1 (Ev.bind m2 (Ev.bind r1 (Ev.bind d1 (Ev.bind m3 (Ev.bind s1 ?_))))))))
  refine Ev.bind p2 (Ev.congr (fun k => if_pos rfl) (Ev.bind p1 (Ev.congr (fun k => if_pos rfl) (Ev.bind p0 ?_))))
  refine Ev.bind q2 (Ev.congr (fun k => if_pos rfl) (Ev.bind q1 (Ev.congr (fun k => if_pos rfl) (Ev.bind q0 ?_))))
  refine Ev.congr (fun k => if_pos rfl) (Ev.congr (fun k => if_pos rfl) (Ev.congr (fun k => if_pos (beq_self_eq_true _)) ?_))
  exact Ev.congr (fun k => (bind_eq (low_eq x y z) _).trans (congrArg some (eq2 y z))) (Ev.now _)
end Go.Proofs.Ytbejjlecpcphoaa.Q
