-- Written by a program of this session's (a turned print), not by hand.
import Derived.Test.YtbejjlecpcphoaaPx0
import Derived.Test.YtbejjlecpcphoaaPx9
namespace Go.Proofs.Ytbejjlecpcphoaa.P
open Go.RowKit Go.Proofs.YtbejjlecpcphoaaW.PrintWords Go.Proofs.YtbejjlecpcphoaaW.PrintLast Go.Proofs.YtbejjlecpcphoaaW.PrintMore
attribute [local go_sem] max2_int min2_int max_two min_two max_three min_three max_four min_four   -- for this text's walks alone
set_option linter.unusedVariables false
set_option linter.unusedSimpArgs false

/-! ### arith_kind: function 106: by hand -/
/-- kind: a number's kind, the finite ones but nought taken for one. -/
def arith_kind.tab (t : Int) : Option Int := if t = 0 then some 0 else if t = 1 then some 1 else if t = 2 then some 1 else if t = 3 then some 2 else if t = 4 then some 3 else none
def arith_kind.f (k : Nat) (a0 : Int) : Option Int := (float_Kind.f k a0).bind arith_kind.tab
theorem arith_kind.mono : ∀ a0 k, LeO (arith_kind.f k a0) (arith_kind.f (k + 1) a0) := by
 intro a0 k
 unfold arith_kind.f
 exact LeO.bind (float_Kind.mono _ _) (fun _ => LeO.refl _)
set_option maxRecDepth 100000 in
theorem arith_kind.at0 (W : World) : (Instr.index 113 (.agg #[.int .i64 0, .int .i64 1, .int .i64 1, .int .i64 2, .int .i64 3]) (.int .i64 0)).run Try.prog W = .ok (.int .i64 0) W := by rfl
set_option maxRecDepth 100000 in
theorem arith_kind.at1 (W : World) : (Instr.index 113 (.agg #[.int .i64 0, .int .i64 1, .int .i64 1, .int .i64 2, .int .i64 3]) (.int .i64 1)).run Try.prog W = .ok (.int .i64 1) W := by rfl
set_option maxRecDepth 100000 in
theorem arith_kind.at2 (W : World) : (Instr.index 113 (.agg #[.int .i64 0, .int .i64 1, .int .i64 1, .int .i64 2, .int .i64 3]) (.int .i64 2)).run Try.prog W = .ok (.int .i64 1) W := by rfl
set_option maxRecDepth 100000 in
theorem arith_kind.at3 (W : World) : (Instr.index 113 (.agg #[.int .i64 0, .int .i64 1, .int .i64 1, .int .i64 2, .int .i64 3]) (.int .i64 3)).run Try.prog W = .ok (.int .i64 2) W := by rfl
set_option maxRecDepth 100000 in
theorem arith_kind.at4 (W : World) : (Instr.index 113 (.agg #[.int .i64 0, .int .i64 1, .int .i64 1, .int .i64 2, .int .i64 3]) (.int .i64 4)).run Try.prog W = .ok (.int .i64 3) W := by rfl
theorem arith_kind.cases {t r : Int} (h : arith_kind.tab t = some r) (W : World) : (Instr.index 113 (.agg #[.int .i64 0, .int .i64 1, .int .i64 1, .int .i64 2, .int .i64 3]) (.int .i64 t)).run Try.prog W = .ok (.int .i64 r) W := by
 unfold arith_kind.tab at h
 by_cases h0 : t = 0
 ·
  rw [if_pos h0] at h; obtain rfl := Option.some.inj h; rw [h0]; exact arith_kind.at0 W
 rw [if_neg h0] at h
 by_cases h1 : t = 1
 ·
  rw [if_pos h1] at h; obtain rfl := Option.some.inj h; rw [h1]; exact arith_kind.at1 W
 rw [if_neg h1] at h
 by_cases h2 : t = 2
 ·
  rw [if_pos h2] at h; obtain rfl := Option.some.inj h; rw [h2]; exact arith_kind.at2 W
 rw [if_neg h2] at h
 by_cases h3 : t = 3
 ·
  rw [if_pos h3] at h; obtain rfl := Option.some.inj h; rw [h3]; exact arith_kind.at3 W
 rw [if_neg h3] at h
 by_cases h4 : t = 4
 ·
  rw [if_pos h4] at h; obtain rfl := Option.some.inj h; rw [h4]; exact arith_kind.at4 W
 rw [if_neg h4] at h
 exact absurd h (by simp)
set_option maxHeartbeats 4000000 in
set_option maxRecDepth 100000 in
theorem arith_kind.calls (k : Nat) (a0 : Int) (r : Int) (w : World) (h : arith_kind.f k a0 = some r) :
  Calls Try.prog 106 #[.int .u64 a0] w fun e w' => e = .returned (.int .i64 r) ∧ Drawn0 w w' := by
 unfold arith_kind.f at h
 replace h := Option.bind_eq_some_iff.mp h
 obtain ⟨t, A0, h⟩ := h
 have AF := zA A0
 have hc := arith_kind.cases h
 clear A0 h
 go_enter Try.func106, Try.ntmps106
 go_wp2_with (go_at_call 23; (with_reducible refine (float_Kind.calls k a0 t _ AF.out).mono ?_); rintro e w' ⟨rfl, ⟨nd, rfl⟩⟩)
 go_ret
 exact ⟨rfl, _, rfl⟩

end Go.Proofs.Ytbejjlecpcphoaa.P
