/-
  The quotient of two words by one (Knuth's algorithm, as math/bits has it), and Div of package wide.
-/
import Derived.Test.YtbejjlecpcphoaaPx29
import Derived.Test.YtbejjlecpcphoaaPx30
import Derived.Test.YtbejjlecpcphoaaPx28
import Derived.Test.YtbejjlecpcphoaaQ4
namespace Go.Proofs.Ytbejjlecpcphoaa.Q
set_option linter.unusedVariables false
set_option linter.unusedSimpArgs false
open Go.RowKit Go.Proofs.YtbejjlecpcphoaaW.PrintWords Go.Proofs.YtbejjlecpcphoaaW.PrintLast Go.Proofs.YtbejjlecpcphoaaW.PrintMore
open Go.Proofs.Ytbejjlecpcphoaa.P Go.Proofs.Ytbejjlecpcphoaa.LL Go.Proofs.Ytbejjlecpcphoaa.FM

/-- What a divisor is: its two halves, the upper one with its highest bit set; and what is divided: u, and half a word v. -/
structure Dv (Y y1 y0 u v : Nat) : Prop where
  ey : Y = y1 * 4294967296 + y0
  h0 : y0 < 4294967296
  h1 : 2147483648 ≤ y1
  h2 : y1 < 4294967296
  hu : u < Y
  hv : v < 4294967296
theorem Dv.mul {Y y1 y0 u v : Nat} (D : Dv Y y1 y0 u v) (q : Nat) : q * Y = q * y1 * 4294967296 + q * y0 := by rw [D.ey, Nat.mul_add, Nat.mul_assoc]
theorem Dv.over {Y y1 y0 u v q r : Nat} (D : Dv Y y1 y0 u v) (e : q * y1 + r = u) (h : q * y0 > 4294967296 * r + v) : u * 4294967296 + v < q * Y := by
  rw [D.mul q]; generalize q * y1 = a at *; generalize q * y0 = b at *; omega
theorem Dv.big {Y y1 y0 u v q : Nat} (D : Dv Y y1 y0 u v) (h : q ≥ 4294967296) : u * 4294967296 + v < q * Y := by
  have h1 := D.hu; have h2 := D.hv
  have := Nat.mul_le_mul_right Y h
  omega
theorem Dv.under {Y y1 y0 u v q r : Nat} (D : Dv Y y1 y0 u v) (e : q * y1 + r = u) (h : ¬ q * y0 > 4294967296 * r + v) : q * Y ≤ u * 4294967296 + v := by
  rw [D.mul q]; generalize q * y1 = a at *; generalize q * y0 = b at *; omega
theorem Dv.stop {Y y1 y0 u v q r : Nat} (D : Dv Y y1 y0 u v) (e : q * y1 + r = u) (hq : q ≤ 4294967296) (h : r ≥ 4294967296) : q * Y ≤ u * 4294967296 + v := by
  have h0 := D.h0
  have : q * y0 ≤ 4294967296 * 4294967295 := Nat.mul_le_mul hq (by omega)
  rw [D.mul q]; generalize q * y1 = a at *; generalize q * y0 = b at *; omega
theorem Dv.first {Y y1 y0 u v : Nat} (D : Dv Y y1 y0 u v) : u * 4294967296 + v < (u / y1 + 1) * Y ∧ u / y1 ≤ 4294967297 := by
  have h1 := D.h1; have h2 := D.hu; have h3 := D.hv; have h4 := D.h0; have h5 := D.ey
  have hp : 0 < y1 := by omega
  have a := Nat.lt_mul_div_succ u hp
  rw [Nat.mul_comm] at a
  constructor
  · rw [D.mul]
    have := Nat.mul_le_mul_right 4294967296 (show u + 1 ≤ (u / y1 + 1) * y1 from a)
    omega
  · apply Nat.le_of_lt_succ
    apply (Nat.div_lt_iff_lt_mul hp).2
    omega
theorem quot_is {N Y q : Nat} (h1 : q * Y ≤ N) (h2 : N < (q + 1) * Y) : N / Y = q := by
  have hY : 0 < Y := by rcases Nat.eq_zero_or_pos Y with h | h; · subst h; omega
                        · exact h
  apply Nat.le_antisymm
  · exact Nat.le_of_lt_succ ((Nat.div_lt_iff_lt_mul hY).2 h2)
  · exact (Nat.le_div_iff_mul_le hY).2 h1
theorem prod64 {a b : Nat} (h1 : a < 4294967296) (h2 : b < 4294967296) : IntKind.u64.wrap ((a : Int) * (b : Int)) = ((a * b : Nat) : Int) := by
  have : a * b ≤ 18446744065119617025 := by
    have := Nat.mul_le_mul (show a ≤ 4294967295 by omega) (show b ≤ 4294967295 by omega)
    simpa using this
  rw [← Int.natCast_mul]; exact wu (Int.natCast_nonneg _) (by omega)
theorem shift32 {r v : Nat} (h1 : r < 4294967296) (h2 : v < 4294967296) : IntKind.u64.wrap (IntKind.u64.wrap (4294967296 * (r : Int)) + (v : Int)) = ((4294967296 * r + v : Nat) : Int) := by
  rw [wu (x := 4294967296 * (r : Int)) (by omega) (by omega), wu (by omega) (by omega)]; omega
theorem sub1 {q : Nat} (h : 0 < q) (h2 : q < 18446744073709551616) : IntKind.u64.wrap ((q : Int) - 1) = ((q - 1 : Nat) : Int) := by
  rw [wu (by omega) (by omega)]; omega
theorem add64 {a b : Nat} (h : a + b < 18446744073709551616) : IntKind.u64.wrap ((a : Int) + (b : Int)) = ((a + b : Nat) : Int) := by
  rw [wu (by omega) (by omega)]; omega
/-- The first half of the quotient. -/
theorem div_l0 {Y y1 y0 u v : Nat} (D : Dv Y y1 y0 u v) (s w0 : Int) (R : Int × Int) (hend : ∀ q : Nat, q = (u * 4294967296 + v) / Y → q < 4294967296 → Ev (fun k => bits_Div64.j2 k (Y : Int) s (y1 : Int) (y0 : Int) (u : Int) (v : Int) w0 (q : Int)) R) (d : Nat) :
    ∀ q r : Nat, 4294967296 - r = d → q * y1 + r = u → r < 4294967296 → q ≤ 4294967297 → u * 4294967296 + v < (q + 1) * Y →
      Ev (fun k => bits_Div64.l0 k (Y : Int) s (y1 : Int) (y0 : Int) (u : Int) (v : Int) w0 (q : Int) (r : Int)) R := by
  induction d using Nat.strongRecOn with
  | _ d ih =>
    intro q r hd e hr hq hlt
    have hy1 := D.h1; have hy2 := D.h2; have hv := D.hv; have hy0 := D.h0
    have small : ∀ q' : Nat, q' * Y ≤ u * 4294967296 + v → q' < 4294967296 := fun q' h => by
      rcases Nat.lt_or_ge q' 4294967296 with h2 | h2
      · exact h2
      · exact absurd (D.big h2) (Nat.not_lt.2 h)
    have yes : u * 4294967296 + v < q * Y → Ev (fun k => bits_Div64.j1 k (Y : Int) s (y1 : Int) (y0 : Int) (u : Int) (v : Int) w0 (q : Int) (r : Int) true) R := by
      intro hov
      have hq0 : 0 < q := by rcases Nat.eq_zero_or_pos q with h | h; · subst h; rw [Nat.zero_mul] at hov; exact absurd hov (Nat.not_lt_zero _)
                             · exact h
      have e1 := sub1 hq0 (Nat.lt_of_le_of_lt hq (by decide))
      have e2 := add64 (a := r) (b := y1) (by omega)
      have e3 : (q - 1) * y1 + (r + y1) = u := by
        have := Nat.sub_add_cancel hq0
        have h2 : (q - 1 + 1) * y1 = q * y1 := by rw [this]
        rw [Nat.add_mul, Nat.one_mul] at h2
        omega
      have hlt2 : u * 4294967296 + v < (q - 1 + 1) * Y := by rw [Nat.sub_add_cancel hq0]; exact hov
      by_cases hb : r + y1 ≥ 4294967296
      · have hle := D.stop e3 (by omega) hb
        refine Ev.step (fun k => ?_) (hend (q - 1) (quot_is hle hlt2).symm (small _ hle))
        simp only [bits_Div64.j1]
        rw [if_pos trivial, e2, if_pos (show ((r + y1 : Nat) : Int) ≥ 4294967296 by clear e1 e2; omega), e1]
      · refine Ev.step (fun k => ?_) (ih (4294967296 - (r + y1)) (by omega) (q - 1) (r + y1) rfl e3 (by omega) (by omega) hlt2)
        simp only [bits_Div64.j1]
        rw [if_pos trivial, e2, if_neg (show ¬ ((r + y1 : Nat) : Int) ≥ 4294967296 by clear e1 e2; omega), e1]
    by_cases hbig : q ≥ 4294967296
    · refine Ev.step (fun k => ?_) (yes (D.big hbig))
      simp only [bits_Div64.l0]
      rw [if_pos (show (q : Int) ≥ 4294967296 by omega)]
    · have f1 := prod64 (a := q) (b := y0) (by omega) hy0
      have f2 := shift32 hr hv
      have hl : ∀ k, bits_Div64.l0 (k + 1) (Y : Int) s (y1 : Int) (y0 : Int) (u : Int) (v : Int) w0 (q : Int) (r : Int) = bits_Div64.j1 k (Y : Int) s (y1 : Int) (y0 : Int) (u : Int) (v : Int) w0 (q : Int) (r : Int) (decide (q * y0 > 4294967296 * r + v)) := by
        intro k
        simp only [bits_Div64.l0]
        rw [if_neg (show ¬ (q : Int) ≥ 4294967296 by clear f1 f2; omega), f1, f2]
        congr 1
        rw [decide_eq_decide]
        exact Int.ofNat_lt
      clear f1 f2
      by_cases ht : q * y0 > 4294967296 * r + v
      · rw [decide_eq_true ht] at hl
        exact Ev.step hl (yes (D.over e ht))
      · rw [decide_eq_false ht] at hl
        have hle := D.under e ht
        refine Ev.step hl (Ev.step (fun k => ?_) (hend q (quot_is hle hlt).symm (small _ hle)))
        simp only [bits_Div64.j1]
        rw [if_neg (by simp)]
/-- The second half. -/
theorem div_l1 {Y y1 y0 u v : Nat} (D : Dv Y y1 y0 u v) (hY : Y < 18446744073709551616) (s q1 : Nat) (hs : s ≤ 64) (h1 : q1 < 4294967296) (d : Nat) :
    ∀ q r : Nat, 4294967296 - r = d → q * y1 + r = u → r < 4294967296 → q ≤ 4294967297 → u * 4294967296 + v < (q + 1) * Y →
      Ev (fun k => bits_Div64.l1 k (Y : Int) (s : Int) (y1 : Int) (y0 : Int) (v : Int) (q1 : Int) (r : Int) (u : Int) (q : Int)) (((q1 * 4294967296 + (u * 4294967296 + v) / Y : Nat) : Int), (((u * 4294967296 + v) % Y / 2 ^ s : Nat) : Int)) := by
  induction d using Nat.strongRecOn with
  | _ d ih =>
    intro q r hd e hr hq hlt
    have hy1 := D.h1; have hy2 := D.h2; have hv := D.hv; have hy0 := D.h0
    have small : ∀ q' : Nat, q' * Y ≤ u * 4294967296 + v → q' < 4294967296 := fun q' h => by
      rcases Nat.lt_or_ge q' 4294967296 with h2 | h2
      · exact h2
      · exact absurd (D.big h2) (Nat.not_lt.2 h)
    have fin : ∀ q' : Nat, q' * Y ≤ u * 4294967296 + v → u * 4294967296 + v < (q' + 1) * Y →
        IntKind.u64.wrap (IntKind.u64.wrap ((q1 : Int) * 4294967296) + (q' : Int)) = ((q1 * 4294967296 + (u * 4294967296 + v) / Y : Nat) : Int) ∧
        shr .u64 (IntKind.u64.wrap (IntKind.u64.wrap (IntKind.u64.wrap ((u : Int) * 4294967296) + (v : Int)) - IntKind.u64.wrap ((q' : Int) * (Y : Int)))) (s : Int) = (((u * 4294967296 + v) % Y / 2 ^ s : Nat) : Int) := by
      intro q' g1 g2
      have g3 := small q' g1
      have g4 := quot_is g1 g2
      have g5 : (u * 4294967296 + v) % Y = u * 4294967296 + v - q' * Y := by
        have := Nat.div_add_mod (u * 4294967296 + v) Y
        rw [g4, Nat.mul_comm] at this; omega
      have g6 : u * 4294967296 + v - q' * Y < 18446744073709551616 := by
        rw [← g5]; exact Nat.lt_trans (Nat.mod_lt _ (by have := D.hu; omega)) hY
      rw [g4, g5]
      constructor
      · rw [wu (x := (q1 : Int) * 4294967296) (by omega) (by omega), wu (by omega) (by omega)]; omega
      · have e1 : IntKind.u64.wrap (IntKind.u64.wrap (IntKind.u64.wrap ((u : Int) * 4294967296) + (v : Int)) - IntKind.u64.wrap ((q' : Int) * (Y : Int))) = ((u * 4294967296 + v - q' * Y : Nat) : Int) := by
          rw [← Int.natCast_mul]
          generalize q' * Y = z at *
          rw [wu64, wu64, wu64, wu64]
          omega
        rw [e1, shr_nat _ s hs]
    have stopj : ∀ q' : Nat, q' * Y ≤ u * 4294967296 + v → u * 4294967296 + v < (q' + 1) * Y → ∀ k r', bits_Div64.j4 (k + 1) (Y : Int) (s : Int) (y1 : Int) (y0 : Int) (v : Int) (q1 : Int) r' (u : Int) (q' : Int) false = some (((q1 * 4294967296 + (u * 4294967296 + v) / Y : Nat) : Int), (((u * 4294967296 + v) % Y / 2 ^ s : Nat) : Int)) := by
      intro q' g1 g2 k r'
      obtain ⟨f1, f2⟩ := fin q' g1 g2
      simp only [bits_Div64.j4]
      rw [if_neg (by simp), if_pos (Int.natCast_nonneg _), f1, f2]
    have yes : u * 4294967296 + v < q * Y → Ev (fun k => bits_Div64.j4 k (Y : Int) (s : Int) (y1 : Int) (y0 : Int) (v : Int) (q1 : Int) (r : Int) (u : Int) (q : Int) true) (((q1 * 4294967296 + (u * 4294967296 + v) / Y : Nat) : Int), (((u * 4294967296 + v) % Y / 2 ^ s : Nat) : Int)) := by
      intro hov
      have hq0 : 0 < q := by rcases Nat.eq_zero_or_pos q with h | h; · subst h; rw [Nat.zero_mul] at hov; exact absurd hov (Nat.not_lt_zero _)
                             · exact h
      have e1 := sub1 hq0 (Nat.lt_of_le_of_lt hq (by decide))
      have e2 := add64 (a := r) (b := y1) (by omega)
      have e3 : (q - 1) * y1 + (r + y1) = u := by
        have := Nat.sub_add_cancel hq0
        have h2 : (q - 1 + 1) * y1 = q * y1 := by rw [this]
        rw [Nat.add_mul, Nat.one_mul] at h2
        omega
      have hlt2 : u * 4294967296 + v < (q - 1 + 1) * Y := by rw [Nat.sub_add_cancel hq0]; exact hov
      by_cases hb : r + y1 ≥ 4294967296
      · have hle := D.stop e3 (by omega) hb
        obtain ⟨f1, f2⟩ := fin (q - 1) hle hlt2
        refine Ev.step (f := fun _ => some (((q1 * 4294967296 + (u * 4294967296 + v) / Y : Nat) : Int), (((u * 4294967296 + v) % Y / 2 ^ s : Nat) : Int))) (fun k => ?_) (Ev.now _)
        have hc : ((r + y1 : Nat) : Int) ≥ 4294967296 := by clear e1 e2 f1 f2; omega
        simp only [bits_Div64.j4]
        rw [if_pos trivial, e2, if_pos hc, if_pos (Int.natCast_nonneg _), e1, f1, f2]
      · have hc : ¬ ((r + y1 : Nat) : Int) ≥ 4294967296 := by clear e1 e2; omega
        refine Ev.step (fun k => ?_) (ih (4294967296 - (r + y1)) (by omega) (q - 1) (r + y1) rfl e3 (by omega) (by omega) hlt2)
        simp only [bits_Div64.j4]
        rw [if_pos trivial, e2, if_neg hc, e1]
    by_cases hbig : q ≥ 4294967296
    · refine Ev.step (fun k => ?_) (yes (D.big hbig))
      simp only [bits_Div64.l1]
      rw [if_pos (show (q : Int) ≥ 4294967296 by omega)]
    · have f1 := prod64 (a := q) (b := y0) (by omega) hy0
      have f2 := shift32 hr hv
      have hl : ∀ k, bits_Div64.l1 (k + 1) (Y : Int) (s : Int) (y1 : Int) (y0 : Int) (v : Int) (q1 : Int) (r : Int) (u : Int) (q : Int) = bits_Div64.j4 k (Y : Int) (s : Int) (y1 : Int) (y0 : Int) (v : Int) (q1 : Int) (r : Int) (u : Int) (q : Int) (decide (q * y0 > 4294967296 * r + v)) := by
        intro k
        simp only [bits_Div64.l1]
        rw [if_neg (show ¬ (q : Int) ≥ 4294967296 by clear f1 f2; omega), f1, f2]
        congr 1
        rw [decide_eq_decide]
        exact Int.ofNat_lt
      clear f1 f2
      by_cases ht : q * y0 > 4294967296 * r + v
      · rw [decide_eq_true ht] at hl
        exact Ev.step hl (yes (D.over e ht))
      · rw [decide_eq_false ht] at hl
        exact Ev.step hl (Ev.step (fun k => stopj q (D.under e ht) hlt k _) (Ev.now _))
theorem quot_first {u y1 : Nat} (h : 0 < y1) (h1 : y1 < 4294967296) (hu : u < 18446744073709551616) :
    IntKind.u64.wrap (Int.tdiv (u : Int) (y1 : Int)) = ((u / y1 : Nat) : Int) ∧ IntKind.u64.wrap ((u : Int) - IntKind.u64.wrap (((u / y1 : Nat) : Int) * (y1 : Int))) = ((u % y1 : Nat) : Int) := by
  have e : Int.tdiv (u : Int) (y1 : Int) = ((u / y1 : Nat) : Int) := by rw [Int.tdiv_eq_ediv_of_nonneg (Int.natCast_nonneg u)]; rfl
  have hle : u / y1 ≤ u := Nat.div_le_self u y1
  have hm : u % y1 < y1 := Nat.mod_lt u h
  have hd := Nat.div_add_mod u y1
  have hc : u / y1 * y1 = y1 * (u / y1) := Nat.mul_comm _ _
  constructor
  · rw [e, wu (Int.natCast_nonneg _) (by clear e; omega)]
  · rw [← Int.natCast_mul]
    generalize u / y1 * y1 = z at *
    generalize y1 * (u / y1) = z' at *
    generalize u % y1 = m at *
    clear e
    rw [wu (x := (z : Int)) (by omega) (by omega), wu (by omega) (by omega)]; omega
theorem div_j2 {Y y1 y0 u v : Nat} (D : Dv Y y1 y0 u v) (hY : Y < 18446744073709551616) (s v0 : Nat) (hs : s ≤ 64) (hv0 : v0 < 4294967296) (q : Nat) (hq : q = (u * 4294967296 + v) / Y) (hq2 : q < 4294967296) :
    Ev (fun k => bits_Div64.j2 k (Y : Int) (s : Int) (y1 : Int) (y0 : Int) (u : Int) (v : Int) (v0 : Int) (q : Int)) (((q * 4294967296 + ((u * 4294967296 + v) % Y * 4294967296 + v0) / Y : Nat) : Int), ((((u * 4294967296 + v) % Y * 4294967296 + v0) % Y / 2 ^ s : Nat) : Int)) := by
  have hy1 := D.h1; have hy2 := D.h2; have hu := D.hu; have hv := D.hv
  have hm : (u * 4294967296 + v) % Y < Y := Nat.mod_lt _ (by omega)
  have e1 : IntKind.u64.wrap (IntKind.u64.wrap (IntKind.u64.wrap ((u : Int) * 4294967296) + (v : Int)) - IntKind.u64.wrap ((q : Int) * (Y : Int))) = (((u * 4294967296 + v) % Y : Nat) : Int) := by
    have g5 : (u * 4294967296 + v) % Y = u * 4294967296 + v - q * Y ∧ q * Y ≤ u * 4294967296 + v := by
      have := Nat.div_add_mod (u * 4294967296 + v) Y
      rw [← hq, Nat.mul_comm] at this; omega
    rw [← Int.natCast_mul]
    obtain ⟨g5, g6⟩ := g5
    rw [g5] at hm ⊢
    generalize q * Y = z at *
    rw [wu64, wu64, wu64, wu64]
    omega
  obtain ⟨u2, he⟩ : ∃ u2, u2 = (u * 4294967296 + v) % Y := ⟨_, rfl⟩
  rw [← he] at hm e1 ⊢
  have D2 : Dv Y y1 y0 u2 v0 := ⟨D.ey, D.h0, D.h1, D.h2, hm, hv0⟩
  obtain ⟨f1, f2⟩ := quot_first (u := u2) (y1 := y1) (by clear e1; omega) hy2 (Nat.lt_trans hm hY)
  have fst := D2.first
  refine Ev.step (fun k => ?_) (div_l1 D2 hY s q hs hq2 _ (u2 / y1) (u2 % y1) rfl (by rw [Nat.mul_comm]; exact Nat.div_add_mod _ _) (Nat.lt_of_lt_of_le (Nat.mod_lt _ (by clear e1 f1 f2; omega)) (Nat.le_of_lt hy2)) fst.2 fst.1)
  simp only [bits_Div64.j2]
  rw [if_neg (show ¬ (y1 : Int) = 0 by clear e1 f1 f2; omega), e1, f1, f2]
theorem two_steps (A v0 Y : Nat) (hY : 0 < Y) : A / Y * 4294967296 + (A % Y * 4294967296 + v0) / Y = (A * 4294967296 + v0) / Y ∧ (A % Y * 4294967296 + v0) % Y = (A * 4294967296 + v0) % Y := by
  have h : A * 4294967296 + v0 = Y * (A / Y * 4294967296) + (A % Y * 4294967296 + v0) := by
    have := Nat.div_add_mod A Y
    rw [← Nat.mul_assoc]; generalize Y * (A / Y) = z at *; omega
  rw [h, Nat.mul_add_div hY, Nat.mul_add_mod]
  exact ⟨rfl, rfl⟩
theorem lead_ev {y : Nat} (h0 : 0 < y) (h : y < 18446744073709551616) : Ev (fun k => bits_LeadingZeros64.f k (y : Int)) ((64 - blen y : Nat) : Int) := by
  have hl := len64_ev (a := (y : Int)) ⟨Int.natCast_nonneg _, by omega⟩
  rw [Int.toNat_natCast] at hl
  have hle : blen y ≤ 64 := blen_le_of_lt (by rw [p64]; exact h)
  unfold bits_LeadingZeros64.f
  refine Ev.bind hl ?_
  have e : wrap64 (64 - ((blen y : Nat) : Int)) = ((64 - blen y : Nat) : Int) := by rw [w64 (by omega) (by omega)]; omega
  rw [e]; exact Ev.now _
/-- What the shift of the divisor gives. -/
theorem norm {y : Nat} (h0 : 0 < y) (h : y < 18446744073709551616) : 9223372036854775808 ≤ y * 2 ^ (64 - blen y) ∧ y * 2 ^ (64 - blen y) < 18446744073709551616 := by
  have hle : blen y ≤ 64 := blen_le_of_lt (by rw [p64]; exact h)
  have hlt := lt_blen y
  have hge := blen_le (n := y) (by omega)
  have hp : 0 < blen y := blen_pos (by omega)
  constructor
  · have := Nat.mul_le_mul_right (2 ^ (64 - blen y)) hge
    rw [← Nat.pow_add, show blen y - 1 + (64 - blen y) = 63 by omega] at this
    exact this
  · have := Nat.mul_lt_mul_of_pos_right hlt (Nat.two_pow_pos (64 - blen y))
    rw [← Nat.pow_add, show blen y + (64 - blen y) = 64 by omega, p64] at this
    exact this
theorem halves (a : Nat) (h : a < 18446744073709551616) : (a : Int) / 4294967296 = ((a / 4294967296 : Nat) : Int) ∧ Go.bits .and .u64 (a : Int) 4294967295 = ((a % 4294967296 : Nat) : Int) := by
  constructor
  · rfl
  · rw [and32 ⟨Int.natCast_nonneg _, by omega⟩]; rfl
/-- What the shift gives of the number. -/
theorem shifted {x z s : Nat} (hs : s ≤ 64) (hz : z < 18446744073709551616) : (x * 18446744073709551616 + z) * 2 ^ s = (x * 18446744073709551616 + z) / 2 ^ (64 - s) * 18446744073709551616 + z * 2 ^ s % 18446744073709551616 := by
  have hp := pow64_split (64 - s) (by omega)
  rw [show 64 - (64 - s) = s by omega] at hp
  have hd := Nat.div_add_mod (x * 18446744073709551616 + z) (2 ^ (64 - s))
  have e1 : (x * 18446744073709551616 + z) / 2 ^ (64 - s) * 18446744073709551616 = 2 ^ (64 - s) * ((x * 18446744073709551616 + z) / 2 ^ (64 - s)) * 2 ^ s := by
    generalize (x * 18446744073709551616 + z) / 2 ^ (64 - s) = G
    rw [hp, Nat.mul_comm (2 ^ s), ← Nat.mul_assoc, Nat.mul_comm G]
  have e2 : z * 2 ^ s % 18446744073709551616 = (x * 18446744073709551616 + z) % 2 ^ (64 - s) * 2 ^ s := by
    have h1 := shl_part (x * 18446744073709551616 + z) (64 - s) (by omega)
    rw [show 64 - (64 - s) = s by omega] at h1
    rw [← h1, Nat.add_mul, Nat.mul_right_comm, Nat.mul_add_mod_self_right]
  rw [e1, e2, ← Nat.add_mul, hd]
theorem div64_ev {x z y : Nat} (hxy : x < y) (hz : z < 18446744073709551616) (hy : y < 18446744073709551616) :
    Ev (fun k => bits_Div64.f k (x : Int) (z : Int) (y : Int)) ((((x * 18446744073709551616 + z) / y : Nat) : Int), (((x * 18446744073709551616 + z) % y : Nat) : Int)) := by
  unfold bits_Div64.f
  refine Ev.congr (fun k => (if_neg (show ¬ (y : Int) = 0 by omega)).trans (if_neg (show ¬ (y : Int) ≤ (x : Int) by omega))) ?_
  by_cases hx : x = 0
  · subst hx
    refine Ev.congr (fun k => if_pos rfl) ?_
    have e1 : Int.tdiv (z : Int) (y : Int) = ((z / y : Nat) : Int) := by rw [Int.tdiv_eq_ediv_of_nonneg (Int.natCast_nonneg z)]; rfl
    have e2 : Int.tmod (z : Int) (y : Int) = ((z % y : Nat) : Int) := by rw [Int.tmod_eq_emod_of_nonneg (Int.natCast_nonneg z)]; rfl
    have hle : z / y ≤ z := Nat.div_le_self z y
    rw [e1, e2, wu (Int.natCast_nonneg _) (by clear e1 e2; omega), Nat.zero_mul, Nat.zero_add]
    exact Ev.now _
  · refine Ev.congr (fun k => if_neg (show ¬ (x : Int) = 0 by omega)) ?_
    refine Ev.bind (lead_ev (show 0 < y by omega) hy) ?_
    have hle : 64 - blen y ≤ 64 := by omega
    obtain ⟨n1, n2⟩ := norm (show 0 < y by omega) hy
    have hsh := shifted (x := x) (z := z) hle hz
    generalize hS : 64 - blen y = s at *
    have es : IntKind.u64.wrap (s : Int) = (s : Int) := wu (by omega) (by omega)
    have es2 : IntKind.u64.wrap (64 - (s : Int)) = ((64 - s : Nat) : Int) := by rw [wu (by omega) (by omega)]; omega
    have eY : shl .u64 (y : Int) (s : Int) = ((y * 2 ^ s : Nat) : Int) := by rw [shl_nat y s hle, Nat.mod_eq_of_lt n2]
    have hN : (x * 18446744073709551616 + z) * 2 ^ s < y * 2 ^ s * 18446744073709551616 := by
      have : x * 18446744073709551616 + z < y * 18446744073709551616 := by clear es es2 eY; omega
      have := Nat.mul_lt_mul_of_pos_right this (Nat.two_pow_pos s)
      rwa [Nat.mul_right_comm] at this
    have eU : Go.bits .or .u64 (shl .u64 (x : Int) (s : Int)) (shr .u64 (z : Int) ((64 - s : Nat) : Int)) = (((x * 18446744073709551616 + z) / 2 ^ (64 - s) % 18446744073709551616 : Nat) : Int) := by
      have := or_word x z (64 - s) (by omega) (by omega) hz
      rwa [show 64 - (64 - s) = s by omega] at this
    have eZ : shl .u64 (z : Int) (s : Int) = ((z * 2 ^ s % 18446744073709551616 : Nat) : Int) := shl_nat z s hle
    have hzz : z * 2 ^ s % 18446744073709551616 < 18446744073709551616 := Nat.mod_lt _ (by decide)
    have hY0 : 0 < y * 2 ^ s := by clear es es2 eY eU eZ; omega
    have hq : (x * 18446744073709551616 + z) / y = ((x * 18446744073709551616 + z) * 2 ^ s) / (y * 2 ^ s) := (Nat.mul_div_mul_right _ _ (Nat.two_pow_pos s)).symm
    have hr : (x * 18446744073709551616 + z) % y = ((x * 18446744073709551616 + z) * 2 ^ s) % (y * 2 ^ s) / 2 ^ s := by
      rw [Nat.mul_mod_mul_right, Nat.mul_div_cancel _ (Nat.two_pow_pos s)]
    rw [hq, hr]
    generalize (x * 18446744073709551616 + z) * 2 ^ s = N at *
    generalize (x * 18446744073709551616 + z) / 2 ^ (64 - s) = U at *
    generalize z * 2 ^ s % 18446744073709551616 = Z at *
    generalize y * 2 ^ s = Y at *
    have hU : U < Y := by clear es es2 eY eU eZ; omega
    rw [Nat.mod_eq_of_lt (Nat.lt_trans hU n2)] at eU
    obtain ⟨a1, a2⟩ := halves Y n2
    obtain ⟨b1, b2⟩ := halves Z hzz
    have D : Dv Y (Y / 4294967296) (Y % 4294967296) U (Z / 4294967296) := by
      clear es es2 eY eU eZ a1 a2 b1 b2
      exact ⟨by omega, by omega, by omega, by omega, hU, by omega⟩
    obtain ⟨f1, f2⟩ := quot_first (u := U) (y1 := Y / 4294967296) (by have := D.h1; clear es es2 eY eU eZ a1 a2 b1 b2; omega) D.h2 (Nat.lt_trans hU n2)
    have fst := D.first
    have hy1 := D.h1
    have hfin : Ev (fun k => bits_Div64.l0 k (Y : Int) (s : Int) ((Y / 4294967296 : Nat) : Int) ((Y % 4294967296 : Nat) : Int) (U : Int) ((Z / 4294967296 : Nat) : Int) ((Z % 4294967296 : Nat) : Int) ((U / (Y / 4294967296) : Nat) : Int) ((U % (Y / 4294967296) : Nat) : Int)) (((N / Y : Nat) : Int), ((N % Y / 2 ^ s : Nat) : Int)) := by
      refine div_l0 D _ _ _ (fun q g1 g2 => ?_) _ (U / (Y / 4294967296)) (U % (Y / 4294967296)) rfl (by rw [Nat.mul_comm]; exact Nat.div_add_mod _ _) (Nat.lt_of_lt_of_le (Nat.mod_lt _ (by clear es es2 eY eU eZ a1 a2 b1 b2 f1 f2; omega)) (Nat.le_of_lt D.h2)) fst.2 fst.1
      have h2 := div_j2 D n2 s (Z % 4294967296) hle (Nat.mod_lt _ (by decide)) q g1 g2
      obtain ⟨t1, t2⟩ := two_steps (U * 4294967296 + Z / 4294967296) (Z % 4294967296) Y hY0
      rw [← g1] at t1
      have eN : (U * 4294967296 + Z / 4294967296) * 4294967296 + Z % 4294967296 = N := by clear es es2 eY eU eZ a1 a2 b1 b2 f1 f2 h2 t1 t2; omega
      rw [eN] at t1 t2
      rwa [t1, t2] at h2
    refine Ev.congr (fun k => ?_) hfin
    rw [es, es2, if_pos (Int.natCast_nonneg _), if_pos (Int.natCast_nonneg _), eY, eU, eZ, a1, a2, b1, b2, if_neg (show ¬ ((Y / 4294967296 : Nat) : Int) = 0 by clear es es2 eY eU eZ a1 a2 b1 b2 f1 f2; omega), f1, f2]
end Go.Proofs.Ytbejjlecpcphoaa.Q
