/-
  Div of package wide.
-/
import Derived.Test.YtbejjlecpcphoaaPx30
import Derived.Test.YtbejjlecpcphoaaPx31
import Derived.Test.YtbejjlecpcphoaaQ5
import Derived.Test.YtbejjlecpcphoaaQ7
namespace Go.Proofs.Ytbejjlecpcphoaa.Q
set_option linter.unusedVariables false
open Go.RowKit Go.Proofs.YtbejjlecpcphoaaW.PrintWords Go.Proofs.YtbejjlecpcphoaaW.PrintLast Go.Proofs.YtbejjlecpcphoaaW.PrintMore
open Go.Proofs.Ytbejjlecpcphoaa.P Go.Proofs.Ytbejjlecpcphoaa.LL Go.Proofs.Ytbejjlecpcphoaa.FM

theorem words_div (x z y : Nat) (hy : 0 < y) (hx : x < 18446744073709551616) (hz : z < 18446744073709551616) :
    ((x / y : Nat) : Int) = hiW ((x * 18446744073709551616 + z) / y) ∧ (((x % y * 18446744073709551616 + z) / y : Nat) : Int) = loW ((x * 18446744073709551616 + z) / y) ∧
      (x % y * 18446744073709551616 + z) % y = (x * 18446744073709551616 + z) % y := by
  have h : x * 18446744073709551616 + z = y * (x / y * 18446744073709551616) + (x % y * 18446744073709551616 + z) := by
    have := Nat.div_add_mod x y
    rw [← Nat.mul_assoc]; generalize y * (x / y) = w at *; omega
  rw [h, Nat.mul_add_div hy, Nat.mul_add_mod]
  have hm : x % y < y := Nat.mod_lt _ hy
  have hq : (x % y * 18446744073709551616 + z) / y < 18446744073709551616 := by
    apply (Nat.div_lt_iff_lt_mul hy).2; clear h; omega
  have hl : x / y ≤ x := Nat.div_le_self _ _
  clear h
  generalize (x % y * 18446744073709551616 + z) / y = q at *
  generalize x / y = p at *
  unfold hiW loW
  refine ⟨by omega, by omega, rfl⟩
theorem wdiv_ev {a b d : Int} (h1 : Word a) (h2 : Word b) (h3 : Word d) (hd : 0 < d) :
    Ev (fun k => wide_Div.f k a b d) (hiW (two a b / d.toNat), loW (two a b / d.toNat), ((two a b % d.toNat : Nat) : Int), 0) := by
  obtain ⟨x, rfl⟩ := Int.eq_ofNat_of_zero_le h1.lo
  obtain ⟨z, rfl⟩ := Int.eq_ofNat_of_zero_le h2.lo
  obtain ⟨y, rfl⟩ := Int.eq_ofNat_of_zero_le h3.lo
  have a1 := h1.hi; have a2 := h2.hi; have a3 := h3.hi
  have e : two (x : Int) (z : Int) = x * 18446744073709551616 + z := by unfold two; simp only [Int.toNat_natCast]
  rw [e, Int.toNat_natCast]
  have hy : 0 < y := by omega
  have hm : x % y < y := Nat.mod_lt _ hy
  obtain ⟨w1, w2, w3⟩ := words_div x z y hy (by omega) (by omega)
  have hv := div64_ev (x := x % y) (z := z) (y := y) hm (by omega) (by omega)
  have e1 : Int.tdiv (x : Int) (y : Int) = ((x / y : Nat) : Int) := by rw [Int.tdiv_eq_ediv_of_nonneg (Int.natCast_nonneg x)]; rfl
  have e2 : Int.tmod (x : Int) (y : Int) = ((x % y : Nat) : Int) := by rw [Int.tmod_eq_emod_of_nonneg (Int.natCast_nonneg x)]; rfl
  have hl : x / y ≤ x := Nat.div_le_self _ _
  have hb : ((x / y : Nat) : Int) < 18446744073709551616 := by clear e1 e2 w1 w2 w3 e; omega
  unfold wide_Div.f
  rw [e1, e2, wu (Int.natCast_nonneg _) hb]
  refine Ev.congr (fun k => if_neg (show ¬ (y : Int) = 0 by clear e1 e2 w1 w2 w3 e hv; omega)) (Ev.bind hv ?_)
  rw [w1, w2, w3]
  exact Ev.now _
theorem three_parts {P : Nat} (h : P < 6277101735386680763835789423207666416102355444464034512896) : three (w2 P) (hiW P) (loW P) = P := by
  unfold three w2 hiW loW; simp only [Int.toNat_natCast]; omega
theorem w2_word (n : Nat) : Word (w2 n) := ⟨by unfold w2; omega, by unfold w2; omega⟩
end Go.Proofs.Ytbejjlecpcphoaa.Q
