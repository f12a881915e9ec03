-- Written by a program of this session's (a turned print), not by hand.
import Derived.Test.YtbejjlecpcphoaaPx0
import Derived.Test.YtbejjlecpcphoaaPx44
namespace Go.Proofs.Ytbejjlecpcphoaa.P
open Go.RowKit Go.Proofs.YtbejjlecpcphoaaW.PrintWords Go.Proofs.YtbejjlecpcphoaaW.PrintLast Go.Proofs.YtbejjlecpcphoaaW.PrintMore
attribute [local go_sem] max2_int min2_int max_two min_two max_three min_three max_four min_four   -- for this text's walks alone
set_option linter.unusedVariables false
set_option linter.unusedSimpArgs false

/-! ### arith_muls: function 97: by hand -/
/-- muls: what comes of a product, by the kinds. -/
def arith_muls.tab (i j : Int) : Option Int :=
 if i = 0 then (if j = 0 then some 6 else if j = 1 then some 6 else if j = 2 then some 1 else if j = 3 then some 1 else none)
 else if i = 1 then (if j = 0 then some 6 else if j = 1 then some 0 else if j = 2 then some 5 else if j = 3 then some 1 else none)
 else if i = 2 then (if j = 0 then some 1 else if j = 1 then some 5 else if j = 2 then some 5 else if j = 3 then some 1 else none)
 else if i = 3 then (if j = 0 then some 1 else if j = 1 then some 1 else if j = 2 then some 1 else if j = 3 then some 1 else none)
 else none
def arith_muls.f (k : Nat) (a0 a1 : Int) : Option Int := (arith_kind.f k a0).bind fun i => (arith_kind.f k a1).bind fun j => arith_muls.tab i j
theorem arith_muls.mono : ∀ a0 a1 k, LeO (arith_muls.f k a0 a1) (arith_muls.f (k + 1) a0 a1) := by
 intro a0 a1 k
 unfold arith_muls.f
 exact LeO.bind (arith_kind.mono _ _) (fun _ => LeO.bind (arith_kind.mono _ _) (fun _ => LeO.refl _))
def arith_muls.cells : Array Value := #[.int .i64 6, .int .i64 6, .int .i64 1, .int .i64 1, .int .i64 6, .int .i64 0, .int .i64 5, .int .i64 1, .int .i64 1, .int .i64 5, .int .i64 5, .int .i64 1, .int .i64 1, .int .i64 1, .int .i64 1, .int .i64 1]
theorem arith_muls.cases {i j r : Int} (h : arith_muls.tab i j = some r) : ∃ a b : Nat, i = (a : Int) ∧ j = (b : Int) ∧ a < 4 ∧ b < 4 ∧ arith_muls.cells[4 * a + b]? = some (.int .i64 r) := by
 unfold arith_muls.tab at h
 by_cases i0 : i = 0
 ·
  rw [if_pos i0] at h
  by_cases j0 : j = 0
  ·
   rw [if_pos j0] at h; obtain rfl := Option.some.inj h; exact ⟨0, 0, i0, j0, by decide, by decide, rfl⟩
  rw [if_neg j0] at h
  by_cases j1 : j = 1
  ·
   rw [if_pos j1] at h; obtain rfl := Option.some.inj h; exact ⟨0, 1, i0, j1, by decide, by decide, rfl⟩
  rw [if_neg j1] at h
  by_cases j2 : j = 2
  ·
   rw [if_pos j2] at h; obtain rfl := Option.some.inj h; exact ⟨0, 2, i0, j2, by decide, by decide, rfl⟩
  rw [if_neg j2] at h
  by_cases j3 : j = 3
  ·
   rw [if_pos j3] at h; obtain rfl := Option.some.inj h; exact ⟨0, 3, i0, j3, by decide, by decide, rfl⟩
  rw [if_neg j3] at h
  exact absurd h (by simp)
 rw [if_neg i0] at h
 by_cases i1 : i = 1
 ·
  rw [if_pos i1] at h
  by_cases j0 : j = 0
  ·
   rw [if_pos j0] at h; obtain rfl := Option.some.inj h; exact ⟨1, 0, i1, j0, by decide, by decide, rfl⟩
  rw [if_neg j0] at h
  by_cases j1 : j = 1
  ·
   rw [if_pos j1] at h; obtain rfl := Option.some.inj h; exact ⟨1, 1, i1, j1, by decide, by decide, rfl⟩
  rw [if_neg j1] at h
  by_cases j2 : j = 2
  ·
   rw [if_pos j2] at h; obtain rfl := Option.some.inj h; exact ⟨1, 2, i1, j2, by decide, by decide, rfl⟩
  rw [if_neg j2] at h
  by_cases j3 : j = 3
  ·
   rw [if_pos j3] at h; obtain rfl := Option.some.inj h; exact ⟨1, 3, i1, j3, by decide, by decide, rfl⟩
  rw [if_neg j3] at h
  exact absurd h (by simp)
 rw [if_neg i1] at h
 by_cases i2 : i = 2
 ·
  rw [if_pos i2] at h
  by_cases j0 : j = 0
  ·
   rw [if_pos j0] at h; obtain rfl := Option.some.inj h; exact ⟨2, 0, i2, j0, by decide, by decide, rfl⟩
  rw [if_neg j0] at h
  by_cases j1 : j = 1
  ·
   rw [if_pos j1] at h; obtain rfl := Option.some.inj h; exact ⟨2, 1, i2, j1, by decide, by decide, rfl⟩
  rw [if_neg j1] at h
  by_cases j2 : j = 2
  ·
   rw [if_pos j2] at h; obtain rfl := Option.some.inj h; exact ⟨2, 2, i2, j2, by decide, by decide, rfl⟩
  rw [if_neg j2] at h
  by_cases j3 : j = 3
  ·
   rw [if_pos j3] at h; obtain rfl := Option.some.inj h; exact ⟨2, 3, i2, j3, by decide, by decide, rfl⟩
  rw [if_neg j3] at h
  exact absurd h (by simp)
 rw [if_neg i2] at h
 by_cases i3 : i = 3
 ·
  rw [if_pos i3] at h
  by_cases j0 : j = 0
  ·
   rw [if_pos j0] at h; obtain rfl := Option.some.inj h; exact ⟨3, 0, i3, j0, by decide, by decide, rfl⟩
  rw [if_neg j0] at h
  by_cases j1 : j = 1
  ·
   rw [if_pos j1] at h; obtain rfl := Option.some.inj h; exact ⟨3, 1, i3, j1, by decide, by decide, rfl⟩
  rw [if_neg j1] at h
  by_cases j2 : j = 2
  ·
   rw [if_pos j2] at h; obtain rfl := Option.some.inj h; exact ⟨3, 2, i3, j2, by decide, by decide, rfl⟩
  rw [if_neg j2] at h
  by_cases j3 : j = 3
  ·
   rw [if_pos j3] at h; obtain rfl := Option.some.inj h; exact ⟨3, 3, i3, j3, by decide, by decide, rfl⟩
  rw [if_neg j3] at h
  exact absurd h (by simp)
 rw [if_neg i3] at h
 exact absurd h (by simp)
set_option maxRecDepth 100000 in
theorem arith_muls.row (g a : Nat) (ha : a < 4) (W : World) : (Instr.indexAt 112 (.pointer (some ⟨g, 0, none⟩)) (.int .i64 (a : Int))).run Try.prog W = .ok (.pointer (some ⟨g, 4 * a, none⟩)) W := by
 rcases (show a = 0 ∨ a = 1 ∨ a = 2 ∨ a = 3 by omega) with rfl | rfl | rfl | rfl <;> rfl
set_option maxRecDepth 100000 in
theorem arith_muls.col (g c b : Nat) (hb : b < 4) (W : World) : (Instr.indexAt 111 (.pointer (some ⟨g, c, none⟩)) (.int .i64 (b : Int))).run Try.prog W = .ok (.pointer (some ⟨g, c + b, none⟩)) W := by
 rcases (show b = 0 ∨ b = 1 ∨ b = 2 ∨ b = 3 by omega) with rfl | rfl | rfl | rfl <;> rfl
set_option maxHeartbeats 4000000 in
set_option maxRecDepth 100000 in
theorem arith_muls.calls (k : Nat) (a0 a1 : Int) (r : Int) (w : World) (h : arith_muls.f k a0 a1 = some r) :
  Calls Try.prog 97 #[.int .u64 a0, .int .u64 a1] w fun e w' => e = .returned (.int .i64 r) ∧ Below w.heap.size w w' := by
 unfold arith_muls.f at h
 replace h := Option.bind_eq_some_iff.mp h
 obtain ⟨i, A0, h⟩ := h
 have AI := zA A0
 clear A0
 replace h := Option.bind_eq_some_iff.mp h
 obtain ⟨j, A0, h⟩ := h
 have AJ := zA A0
 clear A0
 obtain ⟨a, b, rfl, rfl, ha, hb, hc⟩ := arith_muls.cases h
 have HA := zA ha
 have HBB := zA hb
 have HC := zA hc
 clear h ha hb hc
 go_enter Try.func97, Try.ntmps97
 go_wp2
 have hB : Below w.heap.size w (w.alloc (.cells arith_muls.cells 112)) := zaq (Below.refl _ _) _
 have hcell : (w.alloc (.cells arith_muls.cells 112)).cell? ⟨w.heap.size, 4 * a + b, none⟩ = some (.int .i64 r) := by rw [World.cell?_alloc_at _ _ _ _ rfl]; exact HC.out
 generalize hq : w.alloc _ = W1
 replace hB : Below w.heap.size w W1 := by rw [← hq]; exact hB
 replace hcell : W1.cell? ⟨w.heap.size, 4 * a + b, none⟩ = some (.int .i64 r) := by rw [← hq]; exact hcell
 clear hq
 generalize w.heap.size = g at hcell ⊢
 have hrow := arith_muls.row g a HA.out
 have hcol := arith_muls.col g (4 * a) b HBB.out
 go_quiet (first | (go_at_call 106; refine Calls.quiet_of ((arith_kind.calls k a0 (a : Int) _ AI.out).mono (fun e w' h => ⟨h.1, h.2.out⟩))) | (go_at_call 106; refine Calls.quiet_of ((arith_kind.calls k a1 (b : Int) _ AJ.out).mono (fun e w' h => ⟨h.1, h.2.out⟩))))
 go_wp2
 go_ret
 exact ⟨rfl, zbq hB _⟩

end Go.Proofs.Ytbejjlecpcphoaa.P
