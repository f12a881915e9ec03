-- Written by a program of this session's (a turned print), not by hand.
import Derived.Test.YtbejjlecpcphoaaPx0
import Derived.Test.YtbejjlecpcphoaaPx49
import Derived.Test.YtbejjlecpcphoaaPx50
import Derived.Test.YtbejjlecpcphoaaPx56
namespace Go.Proofs.Ytbejjlecpcphoaa.P
open Go.RowKit Go.Proofs.YtbejjlecpcphoaaW.PrintWords Go.Proofs.YtbejjlecpcphoaaW.PrintLast Go.Proofs.YtbejjlecpcphoaaW.PrintMore
attribute [local go_sem] max2_int min2_int max_two min_two max_three min_three max_four min_four   -- for this text's walks alone
set_option linter.unusedVariables false
set_option linter.unusedSimpArgs false

/-! ### tabardlaw4_ArithMuls: function 15 -/
def tabardlaw4_ArithMuls.f (k : Nat) (a0 : Int) (a1 : Int) : Option (Bool) := (tabardlaw4_shown.f k).bind fun t939 => (if t939 = true then ((arith_Mul.f k a0 a1).bind fun t940 => ((tabardref4_Mul.f k a0 a1).bind fun t941 => (some (t940 == t941)))) else (none))
theorem tabardlaw4_ArithMuls.mono : ∀ a0 a1 k, LeO (tabardlaw4_ArithMuls.f k a0 a1) (tabardlaw4_ArithMuls.f (k + 1) a0 a1) := by
 intro a0 a1 k
 unfold tabardlaw4_ArithMuls.f
 repeat' first
   | (with_reducible exact arith_Mul.mono _ _ _)
   | (with_reducible exact tabardlaw4_shown.mono _)
   | (with_reducible exact tabardref4_Mul.mono _ _ _)
   | (with_reducible exact LeO.refl _)
   | (with_reducible exact LeO.none _)
   | (with_reducible refine LeO.ite ?_ ?_)
   | (with_reducible refine LeO.bind ?_ (fun _ => ?_))
   | exact arith_Mul.mono _ _ _
   | exact tabardlaw4_shown.mono _
   | exact tabardref4_Mul.mono _ _ _
   | exact LeO.none _
   | refine LeO.ite ?_ ?_
   | refine LeO.bind ?_ (fun _ => ?_)
set_option maxHeartbeats 8000000 in
set_option maxRecDepth 100000 in
theorem tabardlaw4_ArithMuls.calls (k : Nat) (a0 : Int) (a1 : Int) (r : Bool) (w : World) (h : tabardlaw4_ArithMuls.f k a0 a1 = some r) :
  Calls Try.prog 15 #[.int .u64 a0, .int .u64 a1] w fun e w' => e = .returned (.bool r) ∧ Below w.heap.size w w' := by
 have HB := zA (Below.refl w.heap.size w)
 have H : ((tabardlaw4_shown.f k).bind fun t939 => (if t939 = true then ((arith_Mul.f k a0 a1).bind fun t940 => ((tabardref4_Mul.f k a0 a1).bind fun t941 => (some (t940 == t941)))) else (none))) = some r := h
 clear h
 replace H := Option.bind_eq_some_iff.mp H
 obtain ⟨t939, A30, H⟩ := H
 replace H : (if t939 = true then ((arith_Mul.f k a0 a1).bind fun t940 => ((tabardref4_Mul.f k a0 a1).bind fun t941 => (some (t940 == t941)))) else (none)) = some r := H
 have A3 := zA A30
 clear A30
 by_cases c4 : t939 = true
 ·
  subst c4
  have H1 : ((arith_Mul.f k a0 a1).bind fun t940 => ((tabardref4_Mul.f k a0 a1).bind fun t941 => (some (t940 == t941)))) = some r := by rw [if_pos rfl] at H; exact H
  clear H
  have H := H1
  clear H1
  replace H := Option.bind_eq_some_iff.mp H
  obtain ⟨t940, A50, H⟩ := H
  replace H : ((tabardref4_Mul.f k a0 a1).bind fun t941 => (some (t940 == t941))) = some r := H
  have A5 := zA A50
  clear A50
  replace H := Option.bind_eq_some_iff.mp H
  obtain ⟨t941, A60, H⟩ := H
  replace H : (some (t940 == t941)) = some r := H
  have A6 := zA A60
  clear A60
  obtain rfl := Option.some.inj H
  go_enter Try.func15, Try.ntmps15
  go_wp2_with (first | ((with_reducible refine zoq (f := 63) rfl ?_); refine goesL_ (some 6) rfl rfl Try.func63 (by kernel_rfl) rfl #[] rfl (by (try simp only [List.map_toArray, List.map_cons, List.map_nil]); first | done | rfl | (simp only [List.length_drop, List.length_take]; rfl)) ?_; (with_reducible refine (tabardlaw4_shown.calls k  true _ A3.out).mono ?_); rintro e w7 ⟨rfl, hb⟩; refine ⟨_, rfl, ?_⟩; have n0_ := zA (zeq (by repeat (first | (with_reducible first | exact HB.out | apply zaq | apply zbq | apply zcq) | exact HB.out)) hb); clear HB; have HB := n0_; clear n0_; (try clear hb); (try clear hb2); (try clear hk); (try clear hi)) | (go_at_call 68; (with_reducible refine (arith_Mul.calls k a0 a1 t940 _ A5.out).mono ?_); rintro e w8 ⟨rfl, hb⟩; have n0_ := zA (zeq (by repeat (first | (with_reducible first | exact HB.out | apply zaq | apply zbq | apply zcq) | exact HB.out)) hb); clear HB; have HB := n0_; clear n0_; (try clear hb); (try clear hb2); (try clear hk); (try clear hi)) | (go_at_call 69; (with_reducible refine (tabardref4_Mul.calls k a0 a1 t941 _ A6.out).mono ?_); rintro e w9 ⟨rfl, hb⟩; have n0_ := zA (zeq (by repeat (first | (with_reducible first | exact HB.out | apply zaq | apply zbq | apply zcq) | exact HB.out)) hb); clear HB; have HB := n0_; clear n0_; (try clear hb); (try clear hb2); (try clear hk); (try clear hi)))
  go_ret
  exact ⟨by first | rfl | (simp [errW_none, errW_some] <;> rfl) | (simp [*, errW_none, errW_some] <;> rfl), by repeat (first | (with_reducible first | exact HB.out | apply zaq | apply zbq | apply zcq) | exact HB.out)⟩
 ·
  replace c4 := Bool.eq_false_iff.mpr c4
  subst c4
  have H1 : (none) = some r := by rw [if_neg (show ¬ (false = true) by decide)] at H; exact H
  clear H
  have H := H1
  clear H1
  exact absurd H (by simp)

/-- THE ONE PURE STATEMENT of tabardlaw4_ArithMuls: yours. -/
def tabardlaw4_ArithMuls.Pure : Prop := ∀ (a0 : Int) (a1 : Int), (Lit.int .u64 a0).wf = true → (Lit.int .u64 a1).wf = true → ∃ k, tabardlaw4_ArithMuls.f k a0 a1 = some true
theorem tabardlaw4_ArithMuls.walk (P : tabardlaw4_ArithMuls.Pure) (a0 : Int) (a1 : Int) (w : World) (w0 : (Lit.int .u64 a0).wf = true) (w1 : (Lit.int .u64 a1).wf = true) :
  Calls Try.prog 15 #[.int .u64 a0, .int .u64 a1] w fun e w' => e = .returned (.bool true) ∧ Below w.heap.size w w' := by
 obtain ⟨k, h⟩ := P a0 a1 w0 w1
 refine (tabardlaw4_ArithMuls.calls k a0 a1 true w h).mono ?_
 rintro e w' ⟨rfl, hd⟩
 exact ⟨rfl, hd⟩

end Go.Proofs.Ytbejjlecpcphoaa.P
