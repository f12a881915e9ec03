/-
  Package wide on words: comparisons, sums, differences, products.
-/
import Derived.Test.YtbejjlecpcphoaaPx28
import Derived.Test.YtbejjlecpcphoaaQA
namespace Go.Proofs.Ytbejjlecpcphoaa.Q
set_option linter.unusedVariables false
set_option linter.unusedSimpArgs false
open Go.RowKit Go.Proofs.YtbejjlecpcphoaaW.PrintWords Go.Proofs.YtbejjlecpcphoaaW.PrintLast Go.Proofs.YtbejjlecpcphoaaW.PrintMore
open Go.Proofs.Ytbejjlecpcphoaa.P Go.Proofs.Ytbejjlecpcphoaa.LL Go.Proofs.Ytbejjlecpcphoaa.FM

/-- A word of 64 bits. -/
structure Word (x : Int) : Prop where
  lo : 0 ≤ x
  hi : x < 18446744073709551616
theorem Word.of_wf {x : Int} (h : (Lit.int .u64 x).wf = true) : Word x := by
  simp [Lit.wf, IntKind.min, IntKind.max, IntKind.signed, IntKind.bits] at h
  exact ⟨by omega, by omega⟩
theorem int_of_wf {x : Int} (h : (Lit.int .i64 x).wf = true) : -9223372036854775808 ≤ x ∧ x < 9223372036854775808 := by
  simp [Lit.wf, IntKind.min, IntKind.max, IntKind.signed, IntKind.bits] at h
  omega
/-- The number of a U128. -/
@[irreducible] def two (hi lo : Int) : Nat := hi.toNat * 18446744073709551616 + lo.toNat
theorem two_lt {hi lo : Int} (h1 : Word hi) (h2 : Word lo) : two hi lo < 340282366920938463463374607431768211456 := by
  have := h1.lo; have := h1.hi; have := h2.lo; have := h2.hi
  unfold two; omega
theorem two_inj {a b c d : Int} (h1 : Word a) (h2 : Word b) (h3 : Word c) (h4 : Word d) (h : two a b = two c d) : a = c ∧ b = d := by
  have := h1.lo; have := h1.hi; have := h2.lo; have := h2.hi
  have := h3.lo; have := h3.hi; have := h4.lo; have := h4.hi
  unfold two at h; omega
theorem word_mod (n : Nat) : Word ((n % 18446744073709551616 : Nat) : Int) := ⟨by omega, by omega⟩
theorem two_parts (n : Nat) (h : n < 340282366920938463463374607431768211456) : two ((n / 18446744073709551616 % 18446744073709551616 : Nat) : Int) ((n % 18446744073709551616 : Nat) : Int) = n := by
  unfold two; rw [Int.toNat_natCast, Int.toNat_natCast]; omega
@[irreducible] def hiW (n : Nat) : Int := ((n / 18446744073709551616 % 18446744073709551616 : Nat) : Int)
@[irreducible] def loW (n : Nat) : Int := ((n % 18446744073709551616 : Nat) : Int)
theorem hiW_two {a b : Int} (h1 : Word a) (h2 : Word b) : hiW (two a b) = a := by
  have := h1.lo; have := h1.hi; have := h2.lo; have := h2.hi
  unfold hiW two; omega
theorem loW_two {a b : Int} (h1 : Word a) (h2 : Word b) : loW (two a b) = b := by
  have := h1.lo; have := h1.hi; have := h2.lo; have := h2.hi
  unfold loW two; omega
theorem hiW_word (n : Nat) : Word (hiW n) := ⟨by unfold hiW; omega, by unfold hiW; omega⟩
theorem loW_word (n : Nat) : Word (loW n) := ⟨by unfold loW; omega, by unfold loW; omega⟩
theorem two_hilo {n : Nat} (h : n < 340282366920938463463374607431768211456) : two (hiW n) (loW n) = n := by unfold hiW loW; exact two_parts n h

theorem add64_eq {a b c : Int} (h1 : Word a) (h2 : Word b) (h3 : 0 ≤ c) (h4 : c ≤ 1) : bits_Add64.f a b c = some ((a + b + c) % 18446744073709551616, (a + b + c) / 18446744073709551616) := by
  unfold bits_Add64.f
  rw [if_pos h1.lo, if_pos h2.lo, if_pos h3, if_pos h4]
theorem sub64_eq {a b c : Int} (h1 : Word a) (h2 : Word b) (h3 : 0 ≤ c) (h4 : c ≤ 1) : bits_Sub64.f a b c = some ((a - b - c) % 18446744073709551616, if a < b + c then 1 else 0) := by
  unfold bits_Sub64.f
  rw [if_pos h1.lo, if_pos h2.lo, if_pos h2.hi, if_pos h3, if_pos h4]; rfl
theorem add_eq {a b c d : Int} (h1 : Word a) (h2 : Word b) (h3 : Word c) (h4 : Word d) :
    wide_Add.f a b c d = some (hiW (two a b + two c d), loW (two a b + two c d), decide (340282366920938463463374607431768211456 ≤ two a b + two c d)) := by
  have := h1.lo; have := h1.hi; have := h2.lo; have := h2.hi
  have := h3.lo; have := h3.hi; have := h4.lo; have := h4.hi
  unfold wide_Add.f
  rw [add64_eq h2 h4 (by omega) (by omega)]
  simp only [Option.bind_some]
  rw [add64_eq h1 h3 (by omega) (by omega)]
  simp only [Option.bind_some]
  unfold hiW loW two
  congr 2
  · omega
  · congr 1
    · omega
    · rw [decide_eq_decide]; omega
theorem sub_eq {a b c d : Int} (h1 : Word a) (h2 : Word b) (h3 : Word c) (h4 : Word d) :
    wide_Sub.f a b c d = some (hiW (two a b + 340282366920938463463374607431768211456 - two c d), loW (two a b + 340282366920938463463374607431768211456 - two c d), decide (two a b < two c d)) := by
  have := h1.lo; have := h1.hi; have := h2.lo; have := h2.hi
  have := h3.lo; have := h3.hi; have := h4.lo; have := h4.hi
  unfold wide_Sub.f
  rw [sub64_eq h2 h4 (by omega) (by omega)]
  simp only [Option.bind_some]
  unfold hiW loW two
  by_cases hl : b < d + 0
  · rw [if_pos hl, sub64_eq h1 h3 (by omega) (by omega)]
    simp only [Option.bind_some]
    by_cases hh : a < c + 1
    · rw [if_pos hh]
      congr 2
      · omega
      · congr 1
        · omega
        · rw [decide_eq_decide]; omega
    · rw [if_neg hh]
      congr 2
      · omega
      · congr 1
        · omega
        · rw [decide_eq_decide]; omega
  · rw [if_neg hl, sub64_eq h1 h3 (by omega) (by omega)]
    simp only [Option.bind_some]
    by_cases hh : a < c + 0
    · rw [if_pos hh]
      congr 2
      · omega
      · congr 1
        · omega
        · rw [decide_eq_decide]; omega
    · rw [if_neg hh]
      congr 2
      · omega
      · congr 1
        · omega
        · rw [decide_eq_decide]; omega

theorem and32 {x : Int} (h : Word x) : Go.bits .and .u64 x 4294967295 = x % 4294967296 :=
  bits_mask .u64 64 (by decide) wraps_u64 32 (by decide) x h.lo h.hi

/-- The product of two words: the halves' products, joined. -/
theorem mul_hi (x0 x1 y0 y1 : Nat) (h0 : x0 < 4294967296) (h1 : x1 < 4294967296) (h2 : y0 < 4294967296) (h3 : y1 < 4294967296) :
    x1 * y1 + (x1 * y0 + x0 * y0 / 4294967296) / 4294967296 + ((x1 * y0 + x0 * y0 / 4294967296) % 4294967296 + x0 * y1) / 4294967296 = (x1 * 4294967296 + x0) * (y1 * 4294967296 + y0) / 18446744073709551616 := by
  have e : (x1 * 4294967296 + x0) * (y1 * 4294967296 + y0) = 18446744073709551616 * (x1 * y1) + 4294967296 * (x1 * y0 + x0 * y1) + x0 * y0 := by
    rw [Nat.add_mul, Nat.mul_add, Nat.mul_add, Nat.mul_add]
    have a1 : x1 * 4294967296 * (y1 * 4294967296) = 18446744073709551616 * (x1 * y1) := by
      rw [Nat.mul_comm x1, Nat.mul_assoc, Nat.mul_comm y1, ← Nat.mul_assoc x1, Nat.mul_comm x1, Nat.mul_assoc, ← Nat.mul_assoc 4294967296]
    have a2 : x1 * 4294967296 * y0 = 4294967296 * (x1 * y0) := by rw [Nat.mul_comm x1, Nat.mul_assoc]
    have a3 : x0 * (y1 * 4294967296) = 4294967296 * (x0 * y1) := by rw [← Nat.mul_assoc, Nat.mul_comm]
    rw [a1, a2, a3]; omega
  rw [e]
  generalize x1 * y1 = p
  generalize x1 * y0 = q
  generalize x0 * y1 = r
  generalize x0 * y0 = s
  omega
theorem mul_le {a b A B : Nat} (h1 : a ≤ A) (h2 : b ≤ B) : a * b ≤ A * B := Nat.mul_le_mul h1 h2
theorem mul_eq {a b : Int} (h1 : Word a) (h2 : Word b) : wide_Mul.f a b = some (hiW (a.toNat * b.toNat), loW (a.toNat * b.toNat)) := by
  obtain ⟨x, rfl⟩ := Int.eq_ofNat_of_zero_le h1.lo
  obtain ⟨y, rfl⟩ := Int.eq_ofNat_of_zero_le h2.lo
  have hx : x < 18446744073709551616 := by have := h1.hi; omega
  have hy : y < 18446744073709551616 := by have := h2.hi; omega
  rw [Int.toNat_natCast, Int.toNat_natCast]
  unfold wide_Mul.f bits_Mul64.f
  simp only [Option.bind_some]
  rw [and32 h1, and32 h2]
  obtain ⟨x1, hx1⟩ : ∃ x1, x1 = x / 4294967296 := ⟨_, rfl⟩
  obtain ⟨x0, hx0⟩ : ∃ x0, x0 = x % 4294967296 := ⟨_, rfl⟩
  obtain ⟨y1, hy1⟩ : ∃ y1, y1 = y / 4294967296 := ⟨_, rfl⟩
  obtain ⟨y0, hy0⟩ : ∃ y0, y0 = y % 4294967296 := ⟨_, rfl⟩
  have b1 : x1 ≤ 4294967295 := by omega
  have b2 : x0 ≤ 4294967295 := by omega
  have b3 : y1 ≤ 4294967295 := by omega
  have b4 : y0 ≤ 4294967295 := by omega
  have ex : x = x1 * 4294967296 + x0 := by omega
  have ey : y = y1 * 4294967296 + y0 := by omega
  have c1 : (x : Int) / 4294967296 = (x1 : Int) := by omega
  have c2 : (x : Int) % 4294967296 = (x0 : Int) := by omega
  have c3 : (y : Int) / 4294967296 = (y1 : Int) := by omega
  have c4 : (y : Int) % 4294967296 = (y0 : Int) := by omega
  have m11 := mul_le b1 b3
  have m10 := mul_le b1 b4
  have m01 := mul_le b2 b3
  have m00 := mul_le b2 b4
  have hh := mul_hi x0 x1 y0 y1 (by omega) (by omega) (by omega) (by omega)
  rw [← ex, ← ey] at hh
  have hxy : x * y < 340282366920938463463374607431768211456 := by
    have := Nat.mul_lt_mul_of_lt_of_le hx (Nat.le_of_lt hy) (by omega)
    omega
  rw [c1, c2, c3, c4]
  have d11 : (x1 : Int) * (y1 : Int) = ((x1 * y1 : Nat) : Int) := (Int.natCast_mul _ _).symm
  have d10 : (x1 : Int) * (y0 : Int) = ((x1 * y0 : Nat) : Int) := (Int.natCast_mul _ _).symm
  have d01 : (x0 : Int) * (y1 : Int) = ((x0 * y1 : Nat) : Int) := (Int.natCast_mul _ _).symm
  have d00 : (x0 : Int) * (y0 : Int) = ((x0 * y0 : Nat) : Int) := (Int.natCast_mul _ _).symm
  have dxy : (x : Int) * (y : Int) = ((x * y : Nat) : Int) := (Int.natCast_mul _ _).symm
  rw [d11, d10, d01, d00, dxy]
  generalize x1 * y1 = p at *
  generalize x1 * y0 = q at *
  generalize x0 * y1 = r at *
  generalize x0 * y0 = s at *
  generalize x * y = z at *
  have e1 : IntKind.u64.wrap (s : Int) = (s : Int) := wu (by omega) (by omega)
  have e2 : IntKind.u64.wrap (q : Int) = (q : Int) := wu (by omega) (by omega)
  have e3 : IntKind.u64.wrap (r : Int) = (r : Int) := wu (by omega) (by omega)
  have e4 : IntKind.u64.wrap (p : Int) = (p : Int) := wu (by omega) (by omega)
  rw [e1, e2, e3, e4]
  have e5 : IntKind.u64.wrap ((q : Int) + (s : Int) / 4294967296) = ((q + s / 4294967296 : Nat) : Int) := by rw [wu (by omega) (by omega)]; omega
  rw [e5, and32 ⟨by omega, by omega⟩]
  have e6 : IntKind.u64.wrap ((p : Int) + ((q + s / 4294967296 : Nat) : Int) / 4294967296) = ((p + (q + s / 4294967296) / 4294967296 : Nat) : Int) := by rw [wu (by omega) (by omega)]; omega
  have e7 : IntKind.u64.wrap (((q + s / 4294967296 : Nat) : Int) % 4294967296 + (r : Int)) = (((q + s / 4294967296) % 4294967296 + r : Nat) : Int) := by rw [wu (by omega) (by omega)]; omega
  rw [e6, e7]
  unfold hiW loW
  rw [wu64, wu64]
  congr 2
  omega

theorem len8 : ∀ x : Fin 256, bt (⟨#[0, 1, 2, 2, 3, 3, 3, 3, 4, 4, 4, 4, 4, 4, 4, 4, 5, 5, 5, 5, 5, 5, 5, 5, 5, 5, 5, 5, 5, 5, 5, 5, 6, 6, 6, 6, 6, 6, 6, 6, 6, 6, 6, 6, 6, 6, 6, 6, 6, 6, 6, 6, 6, 6, 6, 6, 6, 6, 6, 6, 6, 6, 6, 6, 7, 7, 7, 7, 7, 7, 7, 7, 7, 7, 7, 7, 7, 7, 7, 7, 7, 7, 7, 7, 7, 7, 7, 7, 7, 7, 7, 7, 7, 7, 7, 7, 7, 7, 7, 7, 7, 7, 7, 7, 7, 7, 7, 7, 7, 7, 7, 7, 7, 7, 7, 7, 7, 7, 7, 7, 7, 7, 7, 7, 7, 7, 7, 7, 8, 8, 8, 8, 8, 8, 8, 8, 8, 8, 8, 8, 8, 8, 8, 8, 8, 8, 8, 8, 8, 8, 8, 8, 8, 8, 8, 8, 8, 8, 8, 8, 8, 8, 8, 8, 8, 8, 8, 8, 8, 8, 8, 8, 8, 8, 8, 8, 8, 8, 8, 8, 8, 8, 8, 8, 8, 8, 8, 8, 8, 8, 8, 8, 8, 8, 8, 8, 8, 8, 8, 8, 8, 8, 8, 8, 8, 8, 8, 8, 8, 8, 8, 8, 8, 8, 8, 8, 8, 8, 8, 8, 8, 8, 8, 8, 8, 8, 8, 8, 8, 8, 8, 8, 8, 8, 8, 8, 8, 8, 8, 8, 8, 8, 8, 8, 8, 8, 8, 8, 8, 8, 8, 8, 8, 8, 8, 8]⟩ : ByteArray) ((x.val : Nat) : Int) = ((blen x.val : Nat) : Int) := by decide +kernel
end Go.Proofs.Ytbejjlecpcphoaa.Q
