-- Written by a program of this session's (a turned print), not by hand.
import Derived.Test.YtbejjlecpcphoaaPx0
import Derived.Test.YtbejjlecpcphoaaPx8
import Derived.Test.YtbejjlecpcphoaaPx9
import Derived.Test.YtbejjlecpcphoaaPx28
import Derived.Test.YtbejjlecpcphoaaPx47
import Derived.Test.YtbejjlecpcphoaaPx48
namespace Go.Proofs.Ytbejjlecpcphoaa.P
open Go.RowKit Go.Proofs.YtbejjlecpcphoaaW.PrintWords Go.Proofs.YtbejjlecpcphoaaW.PrintLast Go.Proofs.YtbejjlecpcphoaaW.PrintMore
attribute [local go_sem] max2_int min2_int max_two min_two max_three min_three max_four min_four   -- for this text's walks alone
set_option linter.unusedVariables false
set_option linter.unusedSimpArgs false

/-! ### arith_Mul: function 68 -/
def arith_Mul.f (k : Nat) (a0 : Int) (a1 : Int) : Option (Int) := (arith_muls.f k a0 a1).bind fun t823 => (if t823 = 1 then (some 9221120237041090560) else (if t823 = 5 then (if (a0 / 9223372036854775808) = (a1 / 9223372036854775808) then (some 9218868437227405312) else (some 18442240474082181120)) else ((float_Split.f k a0).bind fun bt824 => ((float_Split.f k a1).bind fun bt827 => ((wide_Mul.f bt824.2.1 bt827.2.1).bind fun bt830 => ((float_Join.f k ((a0 / 9223372036854775808) != (a1 / 9223372036854775808)) bt830.1 bt830.2 (wrap64 (bt824.2.2 + bt827.2.2)) false).bind fun t832 => (some t832)))))))
theorem arith_Mul.mono : ∀ a0 a1 k, LeO (arith_Mul.f k a0 a1) (arith_Mul.f (k + 1) a0 a1) := by
 intro a0 a1 k
 unfold arith_Mul.f
 repeat' first
   | (with_reducible exact arith_muls.mono _ _ _)
   | (with_reducible exact float_Join.mono _ _ _ _ _ _)
   | (with_reducible exact float_Split.mono _ _)
   | (with_reducible exact LeO.refl _)
   | (with_reducible exact LeO.none _)
   | (with_reducible refine LeO.ite ?_ ?_)
   | (with_reducible refine LeO.bind ?_ (fun _ => ?_))
   | exact arith_muls.mono _ _ _
   | exact float_Join.mono _ _ _ _ _ _
   | exact float_Split.mono _ _
   | exact LeO.none _
   | refine LeO.ite ?_ ?_
   | refine LeO.bind ?_ (fun _ => ?_)
set_option maxHeartbeats 8000000 in
set_option maxRecDepth 100000 in
theorem arith_Mul.calls (k : Nat) (a0 : Int) (a1 : Int) (r : Int) (w : World) (h : arith_Mul.f k a0 a1 = some r) :
  Calls Try.prog 68 #[.int .u64 a0, .int .u64 a1] w fun e w' => e = .returned (.int .u64 r) ∧ Below w.heap.size w w' := by
 have HB := zA (Below.refl w.heap.size w)
 have H : ((arith_muls.f k a0 a1).bind fun t823 => (if t823 = 1 then (some 9221120237041090560) else (if t823 = 5 then (if (a0 / 9223372036854775808) = (a1 / 9223372036854775808) then (some 9218868437227405312) else (some 18442240474082181120)) else ((float_Split.f k a0).bind fun bt824 => ((float_Split.f k a1).bind fun bt827 => ((wide_Mul.f bt824.2.1 bt827.2.1).bind fun bt830 => ((float_Join.f k ((a0 / 9223372036854775808) != (a1 / 9223372036854775808)) bt830.1 bt830.2 (wrap64 (bt824.2.2 + bt827.2.2)) false).bind fun t832 => (some t832)))))))) = some r := h
 clear h
 replace H := Option.bind_eq_some_iff.mp H
 obtain ⟨t823, A30, H⟩ := H
 replace H : (if t823 = 1 then (some 9221120237041090560) else (if t823 = 5 then (if (a0 / 9223372036854775808) = (a1 / 9223372036854775808) then (some 9218868437227405312) else (some 18442240474082181120)) else ((float_Split.f k a0).bind fun bt824 => ((float_Split.f k a1).bind fun bt827 => ((wide_Mul.f bt824.2.1 bt827.2.1).bind fun bt830 => ((float_Join.f k ((a0 / 9223372036854775808) != (a1 / 9223372036854775808)) bt830.1 bt830.2 (wrap64 (bt824.2.2 + bt827.2.2)) false).bind fun t832 => (some t832))))))) = some r := H
 have A3 := zA A30
 clear A30
 by_cases c4 : t823 = 1
 ·
  rw [if_pos c4] at H
  have c4b0 : (t823 == 1) = true := beq_iff_eq.mpr c4
  have c4b1 : (t823 != 1) = false := bne_eq_false_iff_eq.mpr c4
  clear c4
  obtain rfl := Option.some.inj H
  go_enter Try.func68, Try.ntmps68
  go_wp2_with (first | ((with_reducible refine zoq (f := 97) rfl ?_); refine goesL_ (some 19) rfl rfl Try.func97 (by kernel_rfl) rfl #[.int .u64 a0, .int .u64 a1] rfl (by (try simp only [List.map_toArray, List.map_cons, List.map_nil]); first | done | rfl | (simp only [List.length_drop, List.length_take]; rfl)) ?_; (with_reducible refine (arith_muls.calls k a0 a1 t823 _ A3.out).mono ?_); rintro e w5 ⟨rfl, hb⟩; refine ⟨_, rfl, ?_⟩; have n0_ := zA (zeq (by repeat (first | (with_reducible first | exact HB.out | apply zaq | apply zbq | apply zcq) | exact HB.out)) hb); clear HB; have HB := n0_; clear n0_; (try clear hb); (try clear hb2); (try clear hk); (try clear hi)))
  go_ret
  exact ⟨by first | rfl | (simp [errW_none, errW_some] <;> rfl) | (simp [*, errW_none, errW_some] <;> rfl), by repeat (first | (with_reducible first | exact HB.out | apply zaq | apply zbq | apply zcq) | exact HB.out)⟩
 ·
  rw [if_neg c4] at H
  have c4b0 : (t823 == 1) = false := beq_eq_false_iff_ne.mpr c4
  have c4b1 : (t823 != 1) = true := bne_iff_ne.mpr c4
  by_cases c6 : t823 = 5
  ·
   rw [if_pos c6] at H
   have c6b0 : (t823 == 5) = true := beq_iff_eq.mpr c6
   have c6b1 : (t823 != 5) = false := bne_eq_false_iff_eq.mpr c6
   clear c6
   by_cases c7 : (a0 / 9223372036854775808) = (a1 / 9223372036854775808)
   ·
    rw [if_pos c7] at H
    have c7b0 : ((a0 / 9223372036854775808) == (a1 / 9223372036854775808)) = true := beq_iff_eq.mpr c7
    have c7b1 : ((a0 / 9223372036854775808) != (a1 / 9223372036854775808)) = false := bne_eq_false_iff_eq.mpr c7
    clear c7
    obtain rfl := Option.some.inj H
    go_enter Try.func68, Try.ntmps68
    go_wp2_with (first | ((with_reducible refine zoq (f := 97) rfl ?_); refine goesL_ (some 19) rfl rfl Try.func97 (by kernel_rfl) rfl #[.int .u64 a0, .int .u64 a1] rfl (by (try simp only [List.map_toArray, List.map_cons, List.map_nil]); first | done | rfl | (simp only [List.length_drop, List.length_take]; rfl)) ?_; (with_reducible refine (arith_muls.calls k a0 a1 t823 _ A3.out).mono ?_); rintro e w8 ⟨rfl, hb⟩; refine ⟨_, rfl, ?_⟩; have n0_ := zA (zeq (by repeat (first | (with_reducible first | exact HB.out | apply zaq | apply zbq | apply zcq) | exact HB.out)) hb); clear HB; have HB := n0_; clear n0_; (try clear hb); (try clear hb2); (try clear hk); (try clear hi)))
    go_ret
    exact ⟨by first | rfl | (simp [errW_none, errW_some] <;> rfl) | (simp [*, errW_none, errW_some] <;> rfl), by repeat (first | (with_reducible first | exact HB.out | apply zaq | apply zbq | apply zcq) | exact HB.out)⟩
   ·
    rw [if_neg c7] at H
    have c7b0 : ((a0 / 9223372036854775808) == (a1 / 9223372036854775808)) = false := beq_eq_false_iff_ne.mpr c7
    have c7b1 : ((a0 / 9223372036854775808) != (a1 / 9223372036854775808)) = true := bne_iff_ne.mpr c7
    obtain rfl := Option.some.inj H
    go_enter Try.func68, Try.ntmps68
    go_wp2_with (first | ((with_reducible refine zoq (f := 97) rfl ?_); refine goesL_ (some 19) rfl rfl Try.func97 (by kernel_rfl) rfl #[.int .u64 a0, .int .u64 a1] rfl (by (try simp only [List.map_toArray, List.map_cons, List.map_nil]); first | done | rfl | (simp only [List.length_drop, List.length_take]; rfl)) ?_; (with_reducible refine (arith_muls.calls k a0 a1 t823 _ A3.out).mono ?_); rintro e w9 ⟨rfl, hb⟩; refine ⟨_, rfl, ?_⟩; have n0_ := zA (zeq (by repeat (first | (with_reducible first | exact HB.out | apply zaq | apply zbq | apply zcq) | exact HB.out)) hb); clear HB; have HB := n0_; clear n0_; (try clear hb); (try clear hb2); (try clear hk); (try clear hi)))
    go_ret
    exact ⟨by first | rfl | (simp [errW_none, errW_some] <;> rfl) | (simp [*, errW_none, errW_some] <;> rfl), by repeat (first | (with_reducible first | exact HB.out | apply zaq | apply zbq | apply zcq) | exact HB.out)⟩
  ·
   rw [if_neg c6] at H
   have c6b0 : (t823 == 5) = false := beq_eq_false_iff_ne.mpr c6
   have c6b1 : (t823 != 5) = true := bne_iff_ne.mpr c6
   replace H := Option.bind_eq_some_iff.mp H
   obtain ⟨⟨t824, t825, t826⟩, A100, H⟩ := H
   replace H : ((float_Split.f k a1).bind fun bt827 => ((wide_Mul.f t825 bt827.2.1).bind fun bt830 => ((float_Join.f k ((a0 / 9223372036854775808) != (a1 / 9223372036854775808)) bt830.1 bt830.2 (wrap64 (t826 + bt827.2.2)) false).bind fun t832 => (some t832)))) = some r := H
   have A10 := zA A100
   clear A100
   replace H := Option.bind_eq_some_iff.mp H
   obtain ⟨⟨t827, t828, t829⟩, A110, H⟩ := H
   replace H : ((wide_Mul.f t825 t828).bind fun bt830 => ((float_Join.f k ((a0 / 9223372036854775808) != (a1 / 9223372036854775808)) bt830.1 bt830.2 (wrap64 (t826 + t829)) false).bind fun t832 => (some t832))) = some r := H
   have A11 := zA A110
   clear A110
   replace H := Option.bind_eq_some_iff.mp H
   obtain ⟨⟨t830, t831⟩, A120, H⟩ := H
   replace H : ((float_Join.f k ((a0 / 9223372036854775808) != (a1 / 9223372036854775808)) t830 t831 (wrap64 (t826 + t829)) false).bind fun t832 => (some t832)) = some r := H
   have A12 := zA A120
   clear A120
   replace H := Option.bind_eq_some_iff.mp H
   obtain ⟨t832, A130, H⟩ := H
   replace H : (some t832) = some r := H
   have A13 := zA A130
   clear A130
   obtain rfl := Option.some.inj H
   go_enter Try.func68, Try.ntmps68
   go_wp2_with (first | ((with_reducible refine zoq (f := 97) rfl ?_); refine goesL_ (some 19) rfl rfl Try.func97 (by kernel_rfl) rfl #[.int .u64 a0, .int .u64 a1] rfl (by (try simp only [List.map_toArray, List.map_cons, List.map_nil]); first | done | rfl | (simp only [List.length_drop, List.length_take]; rfl)) ?_; (with_reducible refine (arith_muls.calls k a0 a1 t823 _ A3.out).mono ?_); rintro e w14 ⟨rfl, hb⟩; refine ⟨_, rfl, ?_⟩; have n0_ := zA (zeq (by repeat (first | (with_reducible first | exact HB.out | apply zaq | apply zbq | apply zcq) | exact HB.out)) hb); clear HB; have HB := n0_; clear n0_; (try clear hb); (try clear hb2); (try clear hk); (try clear hi)) | ((with_reducible refine zoq (f := 26) rfl ?_); refine goesL_ (some 27) rfl rfl Try.func26 (by kernel_rfl) rfl #[.int .u64 a0] rfl (by (try simp only [List.map_toArray, List.map_cons, List.map_nil]); first | done | rfl | (simp only [List.length_drop, List.length_take]; rfl)) ?_; (with_reducible refine (float_Split.calls k a0 t824 t825 t826 _ A10.out).mono ?_); rintro e w' ⟨rfl, ⟨nd, rfl⟩⟩; refine ⟨_, rfl, ?_⟩) | ((with_reducible refine zoq (f := 26) rfl ?_); refine goesL_ (some 33) rfl rfl Try.func26 (by kernel_rfl) rfl #[.int .u64 a1] rfl (by (try simp only [List.map_toArray, List.map_cons, List.map_nil]); first | done | rfl | (simp only [List.length_drop, List.length_take]; rfl)) ?_; (with_reducible refine (float_Split.calls k a1 t827 t828 t829 _ A11.out).mono ?_); rintro e w' ⟨rfl, ⟨nd, rfl⟩⟩; refine ⟨_, rfl, ?_⟩) | ((with_reducible refine zoq (f := 46) rfl ?_); refine goesL_ (some 40) rfl rfl Try.func46 (by kernel_rfl) rfl #[.int .u64 t825, .int .u64 t828] rfl (by (try simp only [List.map_toArray, List.map_cons, List.map_nil]); first | done | rfl | (simp only [List.length_drop, List.length_take]; rfl)) ?_; (with_reducible refine (wide_Mul.calls t825 t828 t830 t831 _ A12.out).mono ?_); rintro e w15 ⟨rfl, hb⟩; refine ⟨_, rfl, ?_⟩; have n0_ := zA (zeq (by repeat (first | (with_reducible first | exact HB.out | apply zaq | apply zbq | apply zcq) | exact HB.out)) hb); clear HB; have HB := n0_; clear n0_; (try clear hb); (try clear hb2); (try clear hk); (try clear hi)) | ((with_reducible refine zoq (f := 20) rfl ?_); refine goesL_ (some 44) rfl rfl Try.func20 (by kernel_rfl) rfl #[.bool ((a0 / 9223372036854775808) != (a1 / 9223372036854775808)), .agg #[.int .u64 t830, .int .u64 t831], .int .i64 (wrap64 (t826 + t829)), .bool false] rfl (by (try simp only [List.map_toArray, List.map_cons, List.map_nil]); first | done | rfl | (simp only [List.length_drop, List.length_take]; rfl)) ?_; (with_reducible refine (float_Join.calls k ((a0 / 9223372036854775808) != (a1 / 9223372036854775808)) t830 t831 (wrap64 (t826 + t829)) false t832 _ A13.out).mono ?_); rintro e w16 ⟨rfl, hb⟩; refine ⟨_, rfl, ?_⟩; have n0_ := zA (zeq (by repeat (first | (with_reducible first | exact HB.out | apply zaq | apply zbq | apply zcq) | exact HB.out)) hb); clear HB; have HB := n0_; clear n0_; (try clear hb); (try clear hb2); (try clear hk); (try clear hi)))
   go_ret
   exact ⟨by first | rfl | (simp [errW_none, errW_some] <;> rfl) | (simp [*, errW_none, errW_some] <;> rfl), by repeat (first | (with_reducible first | exact HB.out | apply zaq | apply zbq | apply zcq) | exact HB.out)⟩

/-! ### arith_Sum: function 70 -/
def arith_Sum.l0 : Nat → Int → List Int → Int → Int → Option (Int)
 | 0, _, _, _, _ => none
 | k + 1, x3, x6, x7, x8 => if x8 < x7 then (if 0 ≤ x8 then (if x8 < (x6.length : Int) then ((arith_Add.f k x3 (rd x6 x8)).bind fun t834 => (arith_Sum.l0 k t834 x6 x7 (wrap64 (x8 + 1)))) else (none)) else (none)) else (some x3)
def arith_Sum.f (k : Nat) (l0 : List Int) : Option (Int) := arith_Sum.l0 k 0 l0 (l0.length : Int) 0
theorem arith_Sum.mono_l : ∀ k, (∀ y0 y1 y2 y3, LeO (arith_Sum.l0 k y0 y1 y2 y3) (arith_Sum.l0 (k + 1) y0 y1 y2 y3))
 | 0 => fun _ _ _ _ r h => by simp [arith_Sum.l0] at h
 | k + 1 => by
  have ih0 := arith_Sum.mono_l k
  ·
   intro y0 y1 y2 y3
   unfold arith_Sum.l0
   repeat' first
   | (with_reducible exact ih0 _ _ _ _)
   | (with_reducible exact arith_Add.mono _ _ _)
   | (with_reducible exact LeO.refl _)
   | (with_reducible exact LeO.none _)
   | (with_reducible refine LeO.ite ?_ ?_)
   | (with_reducible refine LeO.bind ?_ (fun _ => ?_))
   | exact ih0 _ _ _ _
   | exact arith_Add.mono _ _ _
   | exact LeO.none _
   | refine LeO.ite ?_ ?_
   | refine LeO.bind ?_ (fun _ => ?_)
theorem arith_Sum.mono : ∀ a0 k, LeO (arith_Sum.f k a0) (arith_Sum.f (k + 1) a0) := by
 intro a0 k
 have ih0 := arith_Sum.mono_l k
 unfold arith_Sum.f
 repeat' first
   | (with_reducible exact ih0 _ _ _ _)
   | (with_reducible exact arith_Add.mono _ _ _)
   | (with_reducible exact LeO.refl _)
   | (with_reducible exact LeO.none _)
   | (with_reducible refine LeO.ite ?_ ?_)
   | (with_reducible refine LeO.bind ?_ (fun _ => ?_))
   | exact ih0 _ _ _ _
   | exact arith_Add.mono _ _ _
   | exact LeO.none _
   | refine LeO.ite ?_ ?_
   | refine LeO.bind ?_ (fun _ => ?_)
set_option maxHeartbeats 8000000 in
set_option maxRecDepth 100000 in
theorem arith_Sum.calls (k : Nat) (A0 : Option Addr) (c0 : Nat) (l0 : List Int) (r : Int) (w : World) (hr0 : Kd.C (Kd.int .u64) w A0 l0.length l0) (hc0 : l0.length ≤ c0) (h : arith_Sum.f k l0 = some r) :
  Calls Try.prog 70 #[.slice A0 l0.length c0] w fun e w' => e = .returned (.int .u64 r) ∧ Below w.heap.size w w' := by
 have HR0 := zA hr0
 have HC0 := zA hc0
 clear hr0 hc0
 have HB := zA (Below.refl w.heap.size w)
 have H : (arith_Sum.l0 k 0 l0 (l0.length : Int) 0) = some r := h
 clear h
 have H' := zA H
 clear H
 go_enter Try.func70, Try.ntmps70
 go_wp2
 go_loopg [3, 8] k (fun kq v3 v8 w' => ∃ (x3_1 : Int) (x8_1 : Int), v3 = .int .u64 x3_1 ∧ v8 = .int .i64 x8_1 ∧ Aside0 (arith_Sum.l0 kq x3_1 l0 (l0.length : Int) x8_1 = some r) ∧ Aside0 (kq ≤ k) ∧ Aside0 (Below w.heap.size w w'))
 case atStart => exact ⟨(0), (0), (by first | rfl | (simp; done) | (simp [*]; done)), (by first | rfl | (simp; done) | (simp [*]; done)), H', ⟨Nat.le_refl _⟩, ⟨by repeat (first | (with_reducible first | exact HB.out | apply zaq | apply zbq | apply zcq) | exact HB.out)⟩⟩
 case round =>
  clear H'
  obtain ⟨x3_1, x8_1, rfl, rfl, HA, HK1, HB⟩ := hrel
  cases gk with
  | zero => exact absurd HA.out (by simp [arith_Sum.l0])
  | succ k1 =>
   have H := HA.out
   clear HA
   simp only [arith_Sum.l0] at H
   by_cases c2 : x8_1 < (l0.length : Int)
   ·
    rw [if_pos c2] at H
    have c2b0 : decide (x8_1 < (l0.length : Int)) = true := decide_eq_true c2
    clear c2
    by_cases c3 : 0 ≤ x8_1
    ·
     rw [if_pos c3] at H
     have c3b0 : decide (0 ≤ x8_1) = true := decide_eq_true c3
     clear c3
     by_cases c4 : x8_1 < (l0.length : Int)
     ·
      rw [if_pos c4] at H
      have c4b0 : decide (x8_1 < (l0.length : Int)) = true := decide_eq_true c4
      clear c4
      replace H := Option.bind_eq_some_iff.mp H
      obtain ⟨t834, A50, H⟩ := H
      replace H : (arith_Sum.l0 k1 t834 l0 (l0.length : Int) (wrap64 (x8_1 + 1))) = some r := H
      have A5 := zA A50
      clear A50
      have H' := zA H
      clear H
      have p833 : 0 ≤ (x8_1 : Int) := of_decide_eq_true (by first | (with_reducible assumption) | assumption)
      have q833 : x8_1 < (l0.length : Int) := of_decide_eq_true (by first | (with_reducible assumption) | assumption)
      obtain ⟨ad833, e833, hx833_0⟩ := Kd.at_int HR0.out x8_1 p833 q833
      cases e833
      replace hx833_0 := (HB.out.cell (World.block_lt_of_cell? w _ hx833_0)).trans hx833_0
      replace p833 := eq_true p833
      replace q833 := eq_true q833
      go_wp2_with (first | ((with_reducible refine zoq (f := 64) rfl ?_); refine goesL_ (some 14) rfl rfl Try.func64 (by kernel_rfl) rfl #[.int .u64 x3_1, .int .u64 (rd l0 x8_1)] rfl (by (try simp only [List.map_toArray, List.map_cons, List.map_nil]); first | done | rfl | (simp only [List.length_drop, List.length_take]; rfl)) ?_; (with_reducible refine (arith_Add.calls k1 x3_1 (rd l0 x8_1) t834 _ A5.out).mono ?_); rintro e w6 ⟨rfl, hb⟩; refine ⟨_, rfl, ?_⟩; have n0_ := zA (zeq (by repeat (first | (with_reducible first | exact HB.out | apply zaq | apply zbq | apply zcq) | exact HB.out)) hb); clear HB; have HB := n0_; clear n0_; (try clear hb); (try clear hb2); (try clear hk); (try clear hi)))
      go_roundg k1
      case measure => have := HK1.out; omega
      case rel => exact ⟨(t834), (wrap64 (x8_1 + 1)), (by first | rfl | (simp; done) | (simp [*]; done)), (by first | rfl | (simp; done) | (simp [*]; done)), H', ⟨by have := HK1.out; omega⟩, ⟨by repeat (first | (with_reducible first | exact HB.out | apply zaq | apply zbq | apply zcq) | exact HB.out)⟩⟩
     ·
      rw [if_neg c4] at H
      exact absurd H (by simp)
    ·
     rw [if_neg c3] at H
     exact absurd H (by simp)
   ·
    rw [if_neg c2] at H
    have c2b0 : decide (x8_1 < (l0.length : Int)) = false := decide_eq_false c2
    clear c2
    obtain rfl := Option.some.inj H
    go_wp2
    go_ret
    exact ⟨by first | rfl | (simp [errW_none, errW_some] <;> rfl) | (simp [*, errW_none, errW_some] <;> rfl), by repeat (first | (with_reducible first | exact HB.out | apply zaq | apply zbq | apply zcq) | exact HB.out)⟩

end Go.Proofs.Ytbejjlecpcphoaa.P
