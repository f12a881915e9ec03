-- Written by a program of this session's (a turned print), not by hand.
import Derived.Test.YtbejjlecpcphoaaPx0
import Derived.Test.YtbejjlecpcphoaaPx47
import Derived.Test.YtbejjlecpcphoaaPx50
import Derived.Test.YtbejjlecpcphoaaPx54
namespace Go.Proofs.Ytbejjlecpcphoaa.P
open Go.RowKit Go.Proofs.YtbejjlecpcphoaaW.PrintWords Go.Proofs.YtbejjlecpcphoaaW.PrintLast Go.Proofs.YtbejjlecpcphoaaW.PrintMore
attribute [local go_sem] max2_int min2_int max_two min_two max_three min_three max_four min_four   -- for this text's walks alone
set_option linter.unusedVariables false
set_option linter.unusedSimpArgs false

/-! ### tabardlaw4_ArithAdds: function 14 -/
def tabardlaw4_ArithAdds.f (k : Nat) (a0 : Int) (a1 : Int) : Option (Bool) := (tabardlaw4_shown.f k).bind fun t912 => (if t912 = true then ((arith_Add.f k a0 a1).bind fun t913 => ((tabardref4_Add.f k a0 a1).bind fun t914 => (if t913 = t914 then ((arith_Sub.f k a0 a1).bind fun t915 => ((tabardref4_Sub.f k a0 a1).bind fun t916 => (some (t915 == t916)))) else (none)))) else (none))
theorem tabardlaw4_ArithAdds.mono : ∀ a0 a1 k, LeO (tabardlaw4_ArithAdds.f k a0 a1) (tabardlaw4_ArithAdds.f (k + 1) a0 a1) := by
 intro a0 a1 k
 unfold tabardlaw4_ArithAdds.f
 repeat' first
   | (with_reducible exact arith_Add.mono _ _ _)
   | (with_reducible exact arith_Sub.mono _ _ _)
   | (with_reducible exact tabardlaw4_shown.mono _)
   | (with_reducible exact tabardref4_Add.mono _ _ _)
   | (with_reducible exact tabardref4_Sub.mono _ _ _)
   | (with_reducible exact LeO.refl _)
   | (with_reducible exact LeO.none _)
   | (with_reducible refine LeO.ite ?_ ?_)
   | (with_reducible refine LeO.bind ?_ (fun _ => ?_))
   | exact arith_Add.mono _ _ _
   | exact arith_Sub.mono _ _ _
   | exact tabardlaw4_shown.mono _
   | exact tabardref4_Add.mono _ _ _
   | exact tabardref4_Sub.mono _ _ _
   | exact LeO.none _
   | refine LeO.ite ?_ ?_
   | refine LeO.bind ?_ (fun _ => ?_)
set_option maxHeartbeats 8000000 in
set_option maxRecDepth 100000 in
theorem tabardlaw4_ArithAdds.calls (k : Nat) (a0 : Int) (a1 : Int) (r : Bool) (w : World) (h : tabardlaw4_ArithAdds.f k a0 a1 = some r) :
  Calls Try.prog 14 #[.int .u64 a0, .int .u64 a1] w fun e w' => e = .returned (.bool r) ∧ Below w.heap.size w w' := by
 have HB := zA (Below.refl w.heap.size w)
 have H : ((tabardlaw4_shown.f k).bind fun t912 => (if t912 = true then ((arith_Add.f k a0 a1).bind fun t913 => ((tabardref4_Add.f k a0 a1).bind fun t914 => (if t913 = t914 then ((arith_Sub.f k a0 a1).bind fun t915 => ((tabardref4_Sub.f k a0 a1).bind fun t916 => (some (t915 == t916)))) else (none)))) else (none))) = some r := h
 clear h
 replace H := Option.bind_eq_some_iff.mp H
 obtain ⟨t912, A30, H⟩ := H
 replace H : (if t912 = true then ((arith_Add.f k a0 a1).bind fun t913 => ((tabardref4_Add.f k a0 a1).bind fun t914 => (if t913 = t914 then ((arith_Sub.f k a0 a1).bind fun t915 => ((tabardref4_Sub.f k a0 a1).bind fun t916 => (some (t915 == t916)))) else (none)))) else (none)) = some r := H
 have A3 := zA A30
 clear A30
 by_cases c4 : t912 = true
 ·
  subst c4
  have H1 : ((arith_Add.f k a0 a1).bind fun t913 => ((tabardref4_Add.f k a0 a1).bind fun t914 => (if t913 = t914 then ((arith_Sub.f k a0 a1).bind fun t915 => ((tabardref4_Sub.f k a0 a1).bind fun t916 => (some (t915 == t916)))) else (none)))) = some r := by rw [if_pos rfl] at H; exact H
  clear H
  have H := H1
  clear H1
  replace H := Option.bind_eq_some_iff.mp H
  obtain ⟨t913, A50, H⟩ := H
  replace H : ((tabardref4_Add.f k a0 a1).bind fun t914 => (if t913 = t914 then ((arith_Sub.f k a0 a1).bind fun t915 => ((tabardref4_Sub.f k a0 a1).bind fun t916 => (some (t915 == t916)))) else (none))) = some r := H
  have A5 := zA A50
  clear A50
  replace H := Option.bind_eq_some_iff.mp H
  obtain ⟨t914, A60, H⟩ := H
  replace H : (if t913 = t914 then ((arith_Sub.f k a0 a1).bind fun t915 => ((tabardref4_Sub.f k a0 a1).bind fun t916 => (some (t915 == t916)))) else (none)) = some r := H
  have A6 := zA A60
  clear A60
  by_cases c7 : t913 = t914
  ·
   rw [if_pos c7] at H
   have c7b0 : (t913 == t914) = true := beq_iff_eq.mpr c7
   have c7b1 : (t913 != t914) = false := bne_eq_false_iff_eq.mpr c7
   clear c7
   replace H := Option.bind_eq_some_iff.mp H
   obtain ⟨t915, A80, H⟩ := H
   replace H : ((tabardref4_Sub.f k a0 a1).bind fun t916 => (some (t915 == t916))) = some r := H
   have A8 := zA A80
   clear A80
   replace H := Option.bind_eq_some_iff.mp H
   obtain ⟨t916, A90, H⟩ := H
   replace H : (some (t915 == t916)) = some r := H
   have A9 := zA A90
   clear A90
   obtain rfl := Option.some.inj H
   go_enter Try.func14, Try.ntmps14
   go_wp2_with (first | ((with_reducible refine zoq (f := 63) rfl ?_); refine goesL_ (some 6) rfl rfl Try.func63 (by kernel_rfl) rfl #[] rfl (by (try simp only [List.map_toArray, List.map_cons, List.map_nil]); first | done | rfl | (simp only [List.length_drop, List.length_take]; rfl)) ?_; (with_reducible refine (tabardlaw4_shown.calls k  true _ A3.out).mono ?_); rintro e w10 ⟨rfl, hb⟩; refine ⟨_, rfl, ?_⟩; have n0_ := zA (zeq (by repeat (first | (with_reducible first | exact HB.out | apply zaq | apply zbq | apply zcq) | exact HB.out)) hb); clear HB; have HB := n0_; clear n0_; (try clear hb); (try clear hb2); (try clear hk); (try clear hi)) | (go_at_call 64; (with_reducible refine (arith_Add.calls k a0 a1 t913 _ A5.out).mono ?_); rintro e w11 ⟨rfl, hb⟩; have n0_ := zA (zeq (by repeat (first | (with_reducible first | exact HB.out | apply zaq | apply zbq | apply zcq) | exact HB.out)) hb); clear HB; have HB := n0_; clear n0_; (try clear hb); (try clear hb2); (try clear hk); (try clear hi)) | (go_at_call 65; (with_reducible refine (tabardref4_Add.calls k a0 a1 t914 _ A6.out).mono ?_); rintro e w12 ⟨rfl, hb⟩; have n0_ := zA (zeq (by repeat (first | (with_reducible first | exact HB.out | apply zaq | apply zbq | apply zcq) | exact HB.out)) hb); clear HB; have HB := n0_; clear n0_; (try clear hb); (try clear hb2); (try clear hk); (try clear hi)) | (go_at_call 66; (with_reducible refine (arith_Sub.calls k a0 a1 t915 _ A8.out).mono ?_); rintro e w13 ⟨rfl, hb⟩; have n0_ := zA (zeq (by repeat (first | (with_reducible first | exact HB.out | apply zaq | apply zbq | apply zcq) | exact HB.out)) hb); clear HB; have HB := n0_; clear n0_; (try clear hb); (try clear hb2); (try clear hk); (try clear hi)) | (go_at_call 67; (with_reducible refine (tabardref4_Sub.calls k a0 a1 t916 _ A9.out).mono ?_); rintro e w14 ⟨rfl, hb⟩; have n0_ := zA (zeq (by repeat (first | (with_reducible first | exact HB.out | apply zaq | apply zbq | apply zcq) | exact HB.out)) hb); clear HB; have HB := n0_; clear n0_; (try clear hb); (try clear hb2); (try clear hk); (try clear hi)))
   go_ret
   exact ⟨by first | rfl | (simp [errW_none, errW_some] <;> rfl) | (simp [*, errW_none, errW_some] <;> rfl), by repeat (first | (with_reducible first | exact HB.out | apply zaq | apply zbq | apply zcq) | exact HB.out)⟩
  ·
   rw [if_neg c7] at H
   exact absurd H (by simp)
 ·
  replace c4 := Bool.eq_false_iff.mpr c4
  subst c4
  have H1 : (none) = some r := by rw [if_neg (show ¬ (false = true) by decide)] at H; exact H
  clear H
  have H := H1
  clear H1
  exact absurd H (by simp)

/-- THE ONE PURE STATEMENT of tabardlaw4_ArithAdds: yours. -/
def tabardlaw4_ArithAdds.Pure : Prop := ∀ (a0 : Int) (a1 : Int), (Lit.int .u64 a0).wf = true → (Lit.int .u64 a1).wf = true → ∃ k, tabardlaw4_ArithAdds.f k a0 a1 = some true
theorem tabardlaw4_ArithAdds.walk (P : tabardlaw4_ArithAdds.Pure) (a0 : Int) (a1 : Int) (w : World) (w0 : (Lit.int .u64 a0).wf = true) (w1 : (Lit.int .u64 a1).wf = true) :
  Calls Try.prog 14 #[.int .u64 a0, .int .u64 a1] w fun e w' => e = .returned (.bool true) ∧ Below w.heap.size w w' := by
 obtain ⟨k, h⟩ := P a0 a1 w0 w1
 refine (tabardlaw4_ArithAdds.calls k a0 a1 true w h).mono ?_
 rintro e w' ⟨rfl, hd⟩
 exact ⟨rfl, hd⟩

end Go.Proofs.Ytbejjlecpcphoaa.P
