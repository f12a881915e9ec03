/-
  Package wide: lengths; and the words of shifts.
-/
import Derived.Test.YtbejjlecpcphoaaPx3
import Derived.Test.YtbejjlecpcphoaaQ3
namespace Go.Proofs.Ytbejjlecpcphoaa.Q
set_option linter.unusedVariables false
set_option linter.unusedSimpArgs false
open Go.RowKit Go.Proofs.YtbejjlecpcphoaaW.PrintWords Go.Proofs.YtbejjlecpcphoaaW.PrintLast Go.Proofs.YtbejjlecpcphoaaW.PrintMore
open Go.Proofs.Ytbejjlecpcphoaa.P Go.Proofs.Ytbejjlecpcphoaa.LL Go.Proofs.Ytbejjlecpcphoaa.FM

theorem blen_div (x j : Nat) (h : x / 2 ^ j ≠ 0) : blen x = j + blen (x / 2 ^ j) := by
  have := blen_shift (j := j) (r := x % 2 ^ j) h (Nat.mod_lt _ (Nat.two_pow_pos _))
  rw [Nat.mul_comm, Nat.div_add_mod] at this
  omega
theorem tab8 (y : Nat) (hy : y < 256) (z : Int) (hz : z = (y : Int)) : wrap64 (bt (⟨#[0, 1, 2, 2, 3, 3, 3, 3, 4, 4, 4, 4, 4, 4, 4, 4, 5, 5, 5, 5, 5, 5, 5, 5, 5, 5, 5, 5, 5, 5, 5, 5, 6, 6, 6, 6, 6, 6, 6, 6, 6, 6, 6, 6, 6, 6, 6, 6, 6, 6, 6, 6, 6, 6, 6, 6, 6, 6, 6, 6, 6, 6, 6, 6, 7, 7, 7, 7, 7, 7, 7, 7, 7, 7, 7, 7, 7, 7, 7, 7, 7, 7, 7, 7, 7, 7, 7, 7, 7, 7, 7, 7, 7, 7, 7, 7, 7, 7, 7, 7, 7, 7, 7, 7, 7, 7, 7, 7, 7, 7, 7, 7, 7, 7, 7, 7, 7, 7, 7, 7, 7, 7, 7, 7, 7, 7, 7, 7, 8, 8, 8, 8, 8, 8, 8, 8, 8, 8, 8, 8, 8, 8, 8, 8, 8, 8, 8, 8, 8, 8, 8, 8, 8, 8, 8, 8, 8, 8, 8, 8, 8, 8, 8, 8, 8, 8, 8, 8, 8, 8, 8, 8, 8, 8, 8, 8, 8, 8, 8, 8, 8, 8, 8, 8, 8, 8, 8, 8, 8, 8, 8, 8, 8, 8, 8, 8, 8, 8, 8, 8, 8, 8, 8, 8, 8, 8, 8, 8, 8, 8, 8, 8, 8, 8, 8, 8, 8, 8, 8, 8, 8, 8, 8, 8, 8, 8, 8, 8, 8, 8, 8, 8, 8, 8, 8, 8, 8, 8, 8, 8, 8, 8, 8, 8, 8, 8, 8, 8, 8, 8, 8, 8, 8, 8, 8, 8]⟩ : ByteArray) z) = ((blen y : Nat) : Int) := by
  subst hz
  have h := len8 ⟨y, hy⟩
  have h2 : bt (⟨#[0, 1, 2, 2, 3, 3, 3, 3, 4, 4, 4, 4, 4, 4, 4, 4, 5, 5, 5, 5, 5, 5, 5, 5, 5, 5, 5, 5, 5, 5, 5, 5, 6, 6, 6, 6, 6, 6, 6, 6, 6, 6, 6, 6, 6, 6, 6, 6, 6, 6, 6, 6, 6, 6, 6, 6, 6, 6, 6, 6, 6, 6, 6, 6, 7, 7, 7, 7, 7, 7, 7, 7, 7, 7, 7, 7, 7, 7, 7, 7, 7, 7, 7, 7, 7, 7, 7, 7, 7, 7, 7, 7, 7, 7, 7, 7, 7, 7, 7, 7, 7, 7, 7, 7, 7, 7, 7, 7, 7, 7, 7, 7, 7, 7, 7, 7, 7, 7, 7, 7, 7, 7, 7, 7, 7, 7, 7, 7, 8, 8, 8, 8, 8, 8, 8, 8, 8, 8, 8, 8, 8, 8, 8, 8, 8, 8, 8, 8, 8, 8, 8, 8, 8, 8, 8, 8, 8, 8, 8, 8, 8, 8, 8, 8, 8, 8, 8, 8, 8, 8, 8, 8, 8, 8, 8, 8, 8, 8, 8, 8, 8, 8, 8, 8, 8, 8, 8, 8, 8, 8, 8, 8, 8, 8, 8, 8, 8, 8, 8, 8, 8, 8, 8, 8, 8, 8, 8, 8, 8, 8, 8, 8, 8, 8, 8, 8, 8, 8, 8, 8, 8, 8, 8, 8, 8, 8, 8, 8, 8, 8, 8, 8, 8, 8, 8, 8, 8, 8, 8, 8, 8, 8, 8, 8, 8, 8, 8, 8, 8, 8, 8, 8, 8, 8, 8, 8]⟩ : ByteArray) (y : Int) = ((blen y : Nat) : Int) := h
  have : blen y ≤ 8 := blen_le_of_lt (k := 8) (by omega)
  rw [h2]
  exact w64 (by omega) (by omega)
set_option maxRecDepth 100000 in
theorem len64_j0 (x n : Nat) (hx : x < 4294967296) (hn : n < 1000) (k : Nat) : bits_Len64.j0 (k + 1) (x : Int) (n : Int) = some ((n + blen x : Nat) : Int) := by
  have tab := tab8
  rw [bits_Len64.j0]
  by_cases h1 : (x : Int) ≥ 65536
  · have b1 : x / 2 ^ 16 ≠ 0 := by omega
    have e1 := blen_div x 16 b1
    rw [if_pos h1]
    by_cases h2 : (x : Int) / 65536 ≥ 256
    · have e2 := blen_div (x / 2 ^ 16) 8 (by omega)
      rw [if_pos h2, if_pos (by omega), if_pos (by omega), tab (x / 2 ^ 16 / 2 ^ 8) (by omega) _ (by omega)]
      have : blen (x / 2 ^ 16 / 2 ^ 8) ≤ 8 := blen_le_of_lt (k := 8) (by omega)
      rw [w64 (x := (n : Int) + 16) (by omega) (by omega), w64 (x := (n : Int) + 16 + 8) (by omega) (by omega), w64 (by omega) (by omega)]
      congr 1; omega
    · rw [if_neg h2, if_pos (by omega), if_pos (by omega), tab (x / 2 ^ 16) (by omega) _ (by omega)]
      have : blen (x / 2 ^ 16) ≤ 8 := blen_le_of_lt (k := 8) (by omega)
      rw [w64 (x := (n : Int) + 16) (by omega) (by omega), w64 (by omega) (by omega)]
      congr 1; omega
  · rw [if_neg h1]
    by_cases h2 : (x : Int) ≥ 256
    · have e2 := blen_div x 8 (by omega)
      rw [if_pos h2, if_pos (by omega), if_pos (by omega), tab (x / 2 ^ 8) (by omega) _ (by omega)]
      have : blen (x / 2 ^ 8) ≤ 8 := blen_le_of_lt (k := 8) (by omega)
      rw [w64 (x := (n : Int) + 8) (by omega) (by omega), w64 (by omega) (by omega)]
      congr 1; omega
    · rw [if_neg h2, if_pos (by omega), if_pos (by omega), tab x (by omega) _ (by omega)]
      have : blen x ≤ 8 := blen_le_of_lt (k := 8) (by omega)
      rw [w64 (by omega) (by omega)]
      congr 1
theorem len64_ev {a : Int} (h : Word a) : Ev (fun k => bits_Len64.f k a) ((blen a.toNat : Nat) : Int) := by
  obtain ⟨x, rfl⟩ := Int.eq_ofNat_of_zero_le h.lo
  have hx : x < 18446744073709551616 := by have := h.hi; omega
  rw [Int.toNat_natCast]
  unfold bits_Len64.f
  by_cases h1 : (x : Int) ≥ 4294967296
  · refine Ev.congr (f := fun k => bits_Len64.j0 k ((x / 4294967296 : Nat) : Int) ((32 : Nat) : Int)) (fun k => (if_pos h1).trans rfl) ?_
    refine Ev.step (len64_j0 (x / 4294967296) 32 (by omega) (by omega)) ?_
    have := blen_div x 32 (by omega)
    rw [this]; exact Ev.now _
  · refine Ev.congr (f := fun k => bits_Len64.j0 k ((x : Nat) : Int) ((0 : Nat) : Int)) (fun k => (if_neg h1).trans rfl) ?_
    refine Ev.step (len64_j0 x 0 (by omega) (by omega)) ?_
    rw [Nat.zero_add]; exact Ev.now _
theorem wlen_ev {a b : Int} (h1 : Word a) (h2 : Word b) : Ev (fun k => wide_Len.f k a b) ((blen (two a b) : Nat) : Int) := by
  have l1 := h1.lo; have l2 := h1.hi; have l3 := h2.lo; have l4 := h2.hi
  unfold wide_Len.f
  by_cases h : a > 0
  · refine Ev.congr (fun k => if_pos h) (Ev.bind (len64_ev h1) ?_)
    have hle : blen a.toNat ≤ 64 := blen_le_of_lt (by omega)
    have : two a b / 2 ^ 64 = a.toNat := by unfold two; omega
    have e := blen_div (two a b) 64 (by omega)
    rw [this] at e
    have e2 : wrap64 (64 + ((blen a.toNat : Nat) : Int)) = ((blen (two a b) : Nat) : Int) := by rw [w64 (by omega) (by omega)]; omega
    rw [e2]; exact Ev.now _
  · refine Ev.congr (fun k => if_neg h) (Ev.bind (len64_ev h2) ?_)
    have : two a b = b.toNat := by unfold two; omega
    rw [this]; exact Ev.now _

/-- The number of a U192. -/
@[irreducible] def three (a b c : Int) : Nat := (a.toNat * 18446744073709551616 + b.toNat) * 18446744073709551616 + c.toNat
@[irreducible] def w2 (n : Nat) : Int := ((n / 340282366920938463463374607431768211456 % 18446744073709551616 : Nat) : Int)
theorem three_zero {a b c : Int} (h1 : Word a) (h2 : Word b) (h3 : Word c) : three a b c = 0 ↔ a = 0 ∧ b = 0 ∧ c = 0 := by
  have := h1.lo; have := h2.lo; have := h3.lo
  unfold three; omega
theorem w2_three {a b c : Int} (h1 : Word a) (h2 : Word b) (h3 : Word c) : w2 (three a b c) = a ∧ hiW (three a b c) = b ∧ loW (three a b c) = c := by
  have := h1.lo; have := h2.lo; have := h3.lo; have := h1.hi; have := h2.hi; have := h3.hi
  unfold w2 hiW loW three; omega
theorem or_low (lo hi i : Nat) (h1 : lo < 2 ^ i) (h2 : hi % 2 ^ i = 0) (h3 : hi < 18446744073709551616) (h4 : lo < 18446744073709551616) : Go.bits .or .u64 (lo : Int) (hi : Int) = ((lo + hi : Nat) : Int) := by
  rw [(bits_nat .u64 64 (by decide) wraps_u64 lo hi h4 h3).2, Nat.or_comm]
  have hq : hi = 2 ^ i * (hi / 2 ^ i) := by
    have := Nat.div_add_mod hi (2 ^ i); omega
  rw [hq, ← Nat.two_pow_add_eq_or_of_lt h1, Nat.add_comm]
theorem or_high (lo hi i : Nat) (h1 : lo < 2 ^ i) (h2 : hi % 2 ^ i = 0) (h3 : hi < 18446744073709551616) (h4 : lo < 18446744073709551616) : Go.bits .or .u64 (hi : Int) (lo : Int) = ((lo + hi : Nat) : Int) := by
  rw [(bits_nat .u64 64 (by decide) wraps_u64 hi lo h3 h4).2]
  have hq : hi = 2 ^ i * (hi / 2 ^ i) := by
    have := Nat.div_add_mod hi (2 ^ i); omega
  rw [hq, ← Nat.two_pow_add_eq_or_of_lt h1, Nat.add_comm]
/-- One word of a shift to the right. -/
theorem pow64_split (n : Nat) (h : n ≤ 64) : (18446744073709551616 : Nat) = 2 ^ (64 - n) * 2 ^ n := by
  rw [← Nat.pow_add, show 64 - n + n = 64 from by omega]
theorem shl_part (a n : Nat) (h : n ≤ 64) : a * 2 ^ (64 - n) % 18446744073709551616 = a % 2 ^ n * 2 ^ (64 - n) := by
  rw [pow64_split n h, Nat.mul_comm (2 ^ (64 - n)) (2 ^ n), Nat.mul_mod_mul_right]
theorem word_shift (a b n : Nat) (h : n ≤ 64) (hb : b < 18446744073709551616) : b / 2 ^ n + a * 2 ^ (64 - n) % 18446744073709551616 = (a * 18446744073709551616 + b) / 2 ^ n % 18446744073709551616 := by
  have hp := Nat.two_pow_pos n
  have e := pow64_split n h
  have hd : (a * 18446744073709551616 + b) / 2 ^ n = a * 2 ^ (64 - n) + b / 2 ^ n := by
    rw [e, ← Nat.mul_assoc, Nat.add_comm, Nat.add_mul_div_right _ _ hp, Nat.add_comm]
  have hb2 : b / 2 ^ n < 2 ^ (64 - n) := by
    apply (Nat.div_lt_iff_lt_mul hp).2; rw [← e]; exact hb
  have hr : a % 2 ^ n < 2 ^ n := Nat.mod_lt _ hp
  have hm := shl_part a n h
  have hle : (a % 2 ^ n + 1) * 2 ^ (64 - n) ≤ 2 ^ n * 2 ^ (64 - n) := Nat.mul_le_mul_right _ hr
  rw [Nat.mul_comm (2 ^ n), ← e, Nat.add_mul] at hle
  rw [hd]
  generalize a * 2 ^ (64 - n) = A at *
  generalize b / 2 ^ n = B at *
  generalize a % 2 ^ n * 2 ^ (64 - n) = C at *
  omega
theorem word_or (a b n : Nat) (h : n ≤ 64) (ha : a < 18446744073709551616) (hb : b < 18446744073709551616) : Go.bits .or .u64 (shr .u64 (b : Int) (n : Int)) (shl .u64 (a : Int) ((64 - n : Nat) : Int)) = (((a * 18446744073709551616 + b) / 2 ^ n % 18446744073709551616 : Nat) : Int) := by
  rw [shr_nat b n h, shl_nat a (64 - n) (by omega), or_low _ _ (64 - n), word_shift a b n h hb]
  · apply (Nat.div_lt_iff_lt_mul (Nat.two_pow_pos _)).2; rw [← pow64_split n h]; exact hb
  · rw [shl_part a n h, Nat.mul_mod_left]
  · exact Nat.mod_lt _ (by omega)
  · exact Nat.lt_of_le_of_lt (Nat.div_le_self _ _) hb
theorem or_word (a b n : Nat) (h : n ≤ 64) (ha : a < 18446744073709551616) (hb : b < 18446744073709551616) : Go.bits .or .u64 (shl .u64 (a : Int) ((64 - n : Nat) : Int)) (shr .u64 (b : Int) (n : Int)) = (((a * 18446744073709551616 + b) / 2 ^ n % 18446744073709551616 : Nat) : Int) := by
  rw [shr_nat b n h, shl_nat a (64 - n) (by omega), or_high _ _ (64 - n), word_shift a b n h hb]
  · apply (Nat.div_lt_iff_lt_mul (Nat.two_pow_pos _)).2; rw [← pow64_split n h]; exact hb
  · rw [shl_part a n h, Nat.mul_mod_left]
  · exact Nat.mod_lt _ (by omega)
  · exact Nat.lt_of_le_of_lt (Nat.div_le_self _ _) hb
theorem mask_eq (c n : Nat) (h : n < 64) (hc : c < 18446744073709551616) : Go.bits .and .u64 (c : Int) (IntKind.u64.wrap (shl .u64 1 (n : Int) - 1)) = ((c % 2 ^ n : Nat) : Int) := by
  have hp := Nat.two_pow_pos n
  have hlt : 2 ^ n < 18446744073709551616 := by
    have := Nat.pow_lt_pow_right (a := 2) (by omega) h
    simpa using this
  have e1 : shl .u64 (1 : Int) (n : Int) = ((2 ^ n : Nat) : Int) := by
    have := shl_nat 1 n (by omega)
    rw [Nat.one_mul, Nat.mod_eq_of_lt hlt] at this
    exact this
  rw [e1, wu (by omega) (by omega)]
  have := bits_mask .u64 64 (by decide) wraps_u64 n (by omega) (c : Int) (by omega) (by omega)
  rw [show ((2 ^ n : Nat) : Int) - 1 = 2 ^ n - 1 from by rw [Int.natCast_pow]; rfl, this]
  rw [Int.natCast_emod, Int.natCast_pow]; rfl
end Go.Proofs.Ytbejjlecpcphoaa.Q
