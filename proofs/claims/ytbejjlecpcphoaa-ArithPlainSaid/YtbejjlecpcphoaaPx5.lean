-- Written by a program of this session's (a turned print), not by hand.
import Derived.Test.YtbejjlecpcphoaaPx0
import Derived.Test.YtbejjlecpcphoaaPx2
namespace Go.Proofs.Ytbejjlecpcphoaa.P
open Go.RowKit Go.Proofs.YtbejjlecpcphoaaW.PrintWords Go.Proofs.YtbejjlecpcphoaaW.PrintLast Go.Proofs.YtbejjlecpcphoaaW.PrintMore
attribute [local go_sem] max2_int min2_int max_two min_two max_three min_three max_four min_four   -- for this text's walks alone
set_option linter.unusedVariables false
set_option linter.unusedSimpArgs false

attribute [local go_sem high] eqA69
/-! ### wide_Drop: function 61 -/
def wide_Drop.l0 : Nat → Int → Bool → Int → Int → Int → Option (Int × Int × Int × Bool)
 | 0, _, _, _, _, _ => none
 | k + 1, x1, x6, x107000, x107001, x107002 => if x1 ≥ 64 then (if (!(x107000 == 0) || (!(x107001 == 0) || (!(x107002 == 0)))) = true then (if x6 = true then (wide_Drop.l0 k (wrap64 (x1 - 64)) true 0 x107000 x107001) else (wide_Drop.l0 k (wrap64 (x1 - 64)) (decide (x107002 > 0)) 0 x107000 x107001)) else (if (x107000 == 0 && (x107001 == 0 && (x107002 == 0))) = true then (some (x107000, x107001, x107002, x6)) else (if x6 = true then (if 0 ≤ x1 then (if 0 ≤ (wrap64 (64 - x1)) then (some (shr .u64 x107000 x1, Go.bits .or .u64 (shr .u64 x107001 x1) (shl .u64 x107000 (wrap64 (64 - x1))), Go.bits .or .u64 (shr .u64 x107002 x1) (shl .u64 x107001 (wrap64 (64 - x1))), true)) else (none)) else (none)) else (if 0 ≤ x1 then (if 0 ≤ (wrap64 (64 - x1)) then (some (shr .u64 x107000 x1, Go.bits .or .u64 (shr .u64 x107001 x1) (shl .u64 x107000 (wrap64 (64 - x1))), Go.bits .or .u64 (shr .u64 x107002 x1) (shl .u64 x107001 (wrap64 (64 - x1))), decide ((Go.bits .and .u64 x107002 (IntKind.u64.wrap ((shl .u64 1 x1) - 1))) > 0))) else (none)) else (none))))) else (if (x107000 == 0 && (x107001 == 0 && (x107002 == 0))) = true then (some (x107000, x107001, x107002, x6)) else (if x6 = true then (if 0 ≤ x1 then (if 0 ≤ (wrap64 (64 - x1)) then (some (shr .u64 x107000 x1, Go.bits .or .u64 (shr .u64 x107001 x1) (shl .u64 x107000 (wrap64 (64 - x1))), Go.bits .or .u64 (shr .u64 x107002 x1) (shl .u64 x107001 (wrap64 (64 - x1))), true)) else (none)) else (none)) else (if 0 ≤ x1 then (if 0 ≤ (wrap64 (64 - x1)) then (some (shr .u64 x107000 x1, Go.bits .or .u64 (shr .u64 x107001 x1) (shl .u64 x107000 (wrap64 (64 - x1))), Go.bits .or .u64 (shr .u64 x107002 x1) (shl .u64 x107001 (wrap64 (64 - x1))), decide ((Go.bits .and .u64 x107002 (IntKind.u64.wrap ((shl .u64 1 x1) - 1))) > 0))) else (none)) else (none))))
def wide_Drop.f (k : Nat) (a0_0 : Int) (a0_1 : Int) (a0_2 : Int) (a1 : Int) : Option (Int × Int × Int × Bool) := wide_Drop.l0 k (mx a1 0) false a0_0 a0_1 a0_2
theorem wide_Drop.mono_l : ∀ k, (∀ y0 y1 y2 y3 y4, LeO (wide_Drop.l0 k y0 y1 y2 y3 y4) (wide_Drop.l0 (k + 1) y0 y1 y2 y3 y4))
 | 0 => fun _ _ _ _ _ r h => by simp [wide_Drop.l0] at h
 | k + 1 => by
  have ih0 := wide_Drop.mono_l k
  ·
   intro y0 y1 y2 y3 y4
   unfold wide_Drop.l0
   repeat' first
   | (with_reducible exact ih0 _ _ _ _ _)
   | (with_reducible exact LeO.refl _)
   | (with_reducible exact LeO.none _)
   | (with_reducible refine LeO.ite ?_ ?_)
   | (with_reducible refine LeO.bind ?_ (fun _ => ?_))
   | exact ih0 _ _ _ _ _
   | exact LeO.none _
   | refine LeO.ite ?_ ?_
   | refine LeO.bind ?_ (fun _ => ?_)
theorem wide_Drop.mono : ∀ a0 a1 a2 a3 k, LeO (wide_Drop.f k a0 a1 a2 a3) (wide_Drop.f (k + 1) a0 a1 a2 a3) := by
 intro a0 a1 a2 a3 k
 have ih0 := wide_Drop.mono_l k
 unfold wide_Drop.f
 repeat' first
   | (with_reducible exact ih0 _ _ _ _ _)
   | (with_reducible exact LeO.refl _)
   | (with_reducible exact LeO.none _)
   | (with_reducible refine LeO.ite ?_ ?_)
   | (with_reducible refine LeO.bind ?_ (fun _ => ?_))
   | exact ih0 _ _ _ _ _
   | exact LeO.none _
   | refine LeO.ite ?_ ?_
   | refine LeO.bind ?_ (fun _ => ?_)
def wide_Drop.T9 : Bool × List (List Nat × List Nat) := (true, [([], []), ([0], [0]), ([1], [1]), ([2, 1], [1, 2]), ([1], [1]), ([4, 1], [1, 4]), ([5, 1], [1, 5]), ([3, 6, 1], [1, 3, 6]), ([7, 1], [1, 7]), ([1, 8], [1, 8]), ([9, 1, 0, 1, 2, 3, 4, 5, 6, 7, 8, 9], [0, 9])])
def wide_Drop.B9 : List Nat := [0, 1, 3, 7, 3, 19, 51, 127, 255, 511, 1023]
theorem wide_Drop.tab9 : rtab .any (opsOf Try.f61 9) = wide_Drop.T9 := by kernel_rfl
theorem wide_Drop.bits9 : waitsOk wide_Drop.T9.2 wide_Drop.B9 = true := by kernel_rfl
def wide_Drop.T10 : Bool × List (List Nat × List Nat) := (true, [([], []), ([0], [0]), ([], []), ([1, 2], [1, 2]), ([], []), ([4], [4]), ([], []), ([5, 6], [5, 6]), ([], []), ([8], [8]), ([], []), ([10], [10]), ([9, 11], [9, 11]), ([7, 12], [7, 12]), ([], []), ([14], [14]), ([], []), ([15, 16], [15, 16]), ([], []), ([18], [18]), ([], []), ([20], [20]), ([19, 21], [19, 21]), ([17, 22], [17, 22]), ([3, 13, 23], [3, 13, 23]), ([], []), ([24, 0, 1, 2, 3, 4, 5, 6, 7, 8, 9, 10, 11, 12, 13, 14, 15, 16, 17, 18, 19, 20, 21, 22, 23, 24], [24]), ([25, 26, 0, 1, 2, 3, 4, 5, 6, 7, 8, 9, 10, 11, 12, 13, 14, 15, 16, 17, 18, 19, 20, 21, 22, 23, 24, 25, 26], [25])])
def wide_Drop.B10 : List Nat := [0, 1, 0, 7, 0, 16, 0, 112, 0, 256, 0, 1024, 3840, 8176, 0, 16384, 0, 114688, 0, 262144, 0, 1048576, 3932160, 8372224, 16777215, 0, 33554431, 134217727]
theorem wide_Drop.tab10 : rtab .any (opsOf Try.f61 10) = wide_Drop.T10 := by kernel_rfl
theorem wide_Drop.bits10 : waitsOk wide_Drop.T10.2 wide_Drop.B10 = true := by kernel_rfl
set_option maxHeartbeats 8000000 in
set_option maxRecDepth 100000 in
theorem wide_Drop.calls (k : Nat) (a0_0 : Int) (a0_1 : Int) (a0_2 : Int) (a1 : Int) (r1 : Int) (r2 : Int) (r3 : Int) (r4 : Bool) (w : World) (h : wide_Drop.f k a0_0 a0_1 a0_2 a1 = some (r1, r2, r3, r4)) :
  Calls Try.prog 61 #[.agg #[.int .u64 a0_0, .int .u64 a0_1, .int .u64 a0_2], .int .i64 a1] w fun e w' => e = .returned (.tuple #[.agg #[.int .u64 r1, .int .u64 r2, .int .u64 r3], .bool r4]) ∧ Below w.heap.size w w' := by
 have hu69 := Try.underlying69
 have HB := zA (Below.refl w.heap.size w)
 have H : (wide_Drop.l0 k (mx a1 0) false a0_0 a0_1 a0_2) = some (r1, r2, r3, r4) := h
 clear h
 obtain ⟨ji3, hji3⟩ : ∃ j_ : Int, (mx a1 0) = j_ := ⟨_, rfl⟩
 replace H : (wide_Drop.l0 k ji3 false a0_0 a0_1 a0_2) = some (r1, r2, r3, r4) := by first | (rw [hji3] at H; exact H) | (simp only [hji3] at H ⊢; exact H)
 (try (have hji3l : 0 ≤ ji3 := by (rw [← hji3]; unfold mx; (repeat' split) <;> omega)))
 (try (have hji3m : 0 ≤ ji3 := by omega))
 have hji3_ : (if a1 < 0 then 0 else a1) = ji3 := hji3
 have H' := zA H
 clear H
 go_enter Try.func61, Try.ntmps61
 go_wp2_with (first | ((with_reducible refine zpq (N := 2) rfl ?_); refine zqq ?hg (N := 2) ?hd (cs := #[.int .u64 a0_0, .int .u64 a0_1, .int .u64 a0_2]) (t := 69) ?hr ?_; (case hd => rfl); (case hg => rfl); (case hr => first | (go_simp; done) | (go_simp; rfl)); intro gb106 hg w4 hbox hb; have n0_ := zA (zeq (by repeat (first | (with_reducible first | exact HB.out | apply zaq | apply zbq | apply zcq) | exact HB.out)) hb); have n1_ := zA (hbox); have n2_ := zA ((by rw [hg]; exact (zfq (by repeat (first | (with_reducible first | exact HB.out | apply zaq | apply zbq | apply zcq) | exact HB.out))) : w.heap.size ≤ gb106)); have n3_ := zA ((by rw [hg]; exact (zfq (by repeat (first | (with_reducible first | exact HB.out | apply zaq | apply zbq | apply zcq) | exact HB.out))) : w.heap.size ≤ gb106)); clear HB; have HB := n0_; have BK106 := n1_; have GW106 := n2_; have GE106 := n3_; clear n0_ n1_ n2_ n3_; clear hb hbox hg) | ((with_reducible refine zpq (N := 4) rfl ?_); refine zqq ?hg (N := 4) ?hd (cs := #[.int .u64 0, .int .u64 0, .int .u64 0]) (t := 69) ?hr ?_; (case hd => rfl); (case hg => rfl); (case hr => first | (go_simp; done) | (go_simp; rfl)); intro gb107 hg w5 hbox hb; have n0_ := zA (zlq (g := gb106) (o := .cells #[.int .u64 a0_0, .int .u64 a0_1, .int .u64 a0_2] 69 (0, 0)) (by (with_reducible repeat (first | refine zgq ?_ _ | refine zhq ?_ | refine ziq ?_ _)); exact BK106.out) hb); have n1_ := zA (zeq (by repeat (first | (with_reducible first | exact HB.out | apply zaq | apply zbq | apply zcq | refine zdq ?_ GE106.out) | exact HB.out)) hb); have n2_ := zA (hbox); have n3_ := zA ((by rw [hg]; exact (zfq (by repeat (first | (with_reducible first | exact HB.out | apply zaq | apply zbq | apply zcq | refine zdq ?_ GE106.out) | exact HB.out))) : w.heap.size ≤ gb107)); have n4_ := zA ((by rw [hg]; exact (zfq (by repeat (first | (with_reducible first | exact HB.out | apply zaq | apply zbq | apply zcq | refine zdq ?_ GE106.out) | exact HB.out))) : w.heap.size ≤ gb107)); have n5_ := zA ((by rw [hg]; exact Nat.ne_of_lt (blk_lt (g := gb106) (o := .cells #[.int .u64 a0_0, .int .u64 a0_1, .int .u64 a0_2] 69 (0, 0)) (by (with_reducible repeat (first | refine zgq ?_ _ | refine zhq ?_ | refine ziq ?_ _)); exact BK106.out)) : gb106 ≠ gb107)); have n6_ := zA ((by rw [hg]; exact Nat.ne_of_gt (blk_lt (g := gb106) (o := .cells #[.int .u64 a0_0, .int .u64 a0_1, .int .u64 a0_2] 69 (0, 0)) (by (with_reducible repeat (first | refine zgq ?_ _ | refine zhq ?_ | refine ziq ?_ _)); exact BK106.out)) : gb107 ≠ gb106)); clear BK106; clear HB; have BK106 := n0_; have HB := n1_; have BK107 := n2_; have GW107 := n3_; have GE107 := n4_; have NB106_107 := n5_; have NB107_106 := n6_; clear n0_ n1_ n2_ n3_ n4_ n5_ n6_; clear hb hbox hg))
 go_loopg [1, 6] k (fun kq v1 v6 w' => ∃ (x1_1 : Int) (x6_1 : Bool) (x107000_1 : Int) (x107001_1 : Int) (x107002_1 : Int), v1 = .int .i64 x1_1 ∧ v6 = .bool x6_1 ∧ Aside0 (wide_Drop.l0 kq x1_1 x6_1 x107000_1 x107001_1 x107002_1 = some (r1, r2, r3, r4)) ∧ Aside0 (kq ≤ k) ∧ Aside0 (w'.heap[gb106]? = some (.cells #[.int .u64 x107000_1, .int .u64 x107001_1, .int .u64 x107002_1] 69 (0, 0))) ∧ Aside0 (w'.heap[gb107]? = some (.cells #[.int .u64 0, .int .u64 0, .int .u64 0] 69 (0, 0))) ∧ Aside0 (Below w.heap.size w w'))
 case atStart => exact ⟨(ji3), (false), (a0_0), (a0_1), (a0_2), (by first | rfl | (simp; done) | (simp only [← hji3] <;> (first | rfl | simp)) | (simp [*]; done)), (by first | rfl | (simp; done) | (simp [*]; done)), H', ⟨Nat.le_refl _⟩, ⟨by (with_reducible repeat (first | refine zgq ?_ _ | refine zhq ?_ | refine ziq ?_ _)); exact BK106.out⟩, ⟨by (with_reducible repeat (first | refine zgq ?_ _ | refine zhq ?_ | refine ziq ?_ _)); exact BK107.out⟩, ⟨by repeat (first | (with_reducible first | exact HB.out | apply zaq | apply zbq | apply zcq | refine zdq ?_ GE106.out | refine zdq ?_ GE107.out) | exact HB.out)⟩⟩
 case round =>
  clear H'
  try clear p2
  obtain ⟨x1_1, x6_1, x107000_1, x107001_1, x107002_1, rfl, rfl, HA, HK1, BK106, BK107, HB⟩ := hrel
  cases gk with
  | zero => exact absurd HA.out (by simp [wide_Drop.l0])
  | succ k1 =>
   have H := HA.out
   clear HA
   simp only [wide_Drop.l0] at H
   by_cases c6 : x1_1 ≥ 64
   ·
    rw [if_pos c6] at H
    have c6b0 : decide (64 ≤ x1_1) = true := decide_eq_true c6
    clear c6
    by_cases c7 : (!(x107000_1 == 0) || (!(x107001_1 == 0) || (!(x107002_1 == 0)))) = true
    ·
     rw [if_pos c7] at H
     have c7b0 : (!(x107000_1 == 0) || (!(x107001_1 == 0) || (!(x107002_1 == 0)))) = true := c7
     clear c7
     by_cases c8 : x6_1 = true
     ·
      subst c8
      have H1 : (wide_Drop.l0 k1 (wrap64 (x1_1 - 64)) true 0 x107000_1 x107001_1) = some (r1, r2, r3, r4) := by rw [if_pos rfl] at H; exact H
      clear H
      have H := H1
      clear H1
      have H' := zA H
      clear H
      have hnb9 := NB106_107.out
      have hnc9 := NB107_106.out
      have hcz10_0 : wr.cell? ⟨gb106, 0, none⟩ = some (.int .u64 x107000_1) := (zmq BK106.out 0).trans rfl
      have hcz10_1 : wr.cell? ⟨gb106, 1, none⟩ = some (.int .u64 x107001_1) := (zmq BK106.out 1).trans rfl
      have hcz10_2 : wr.cell? ⟨gb106, 2, none⟩ = some (.int .u64 x107002_1) := (zmq BK106.out 2).trans rfl
      have hfz10_0 := znq BK106.out 0
      have hfz10_1 := znq BK106.out 1
      have hfz10_2 := znq BK106.out 2
      go_wp2
      go_roundg k1
      case measure => have := HK1.out; omega
      case rel => exact ⟨(wrap64 (x1_1 - 64)), (true), (0), (x107000_1), (x107001_1), (by first | rfl | (simp; done) | (simp [*]; done)), (by first | rfl | (simp; done) | (simp [*]; done)), H', ⟨by have := HK1.out; omega⟩, ⟨by (with_reducible repeat (first | refine zgq ?_ _ | refine zhq ?_ | refine ziq ?_ _)); refine zkq (cs := #[.int .u64 0, .int .u64 x107000_1, .int .u64 x107002_1]) ?_ 2 _ rfl; (with_reducible repeat (first | refine zgq ?_ _ | refine zhq ?_ | refine ziq ?_ _)); refine zkq (cs := #[.int .u64 0, .int .u64 x107001_1, .int .u64 x107002_1]) ?_ 1 _ rfl; (with_reducible repeat (first | refine zgq ?_ _ | refine zhq ?_ | refine ziq ?_ _)); refine zkq (cs := #[.int .u64 x107000_1, .int .u64 x107001_1, .int .u64 x107002_1]) ?_ 0 _ rfl; (with_reducible repeat (first | refine zgq ?_ _ | refine zhq ?_ | refine ziq ?_ _)); exact BK106.out⟩, ⟨by (with_reducible repeat (first | refine zgq ?_ _ | refine zhq ?_ | refine ziq ?_ _)); refine zjq ?_ NB107_106.out _; (with_reducible repeat (first | refine zgq ?_ _ | refine zhq ?_ | refine ziq ?_ _)); refine zjq ?_ NB107_106.out _; (with_reducible repeat (first | refine zgq ?_ _ | refine zhq ?_ | refine ziq ?_ _)); refine zjq ?_ NB107_106.out _; (with_reducible repeat (first | refine zgq ?_ _ | refine zhq ?_ | refine ziq ?_ _)); exact BK107.out⟩, ⟨by repeat (first | (with_reducible first | exact HB.out | apply zaq | apply zbq | apply zcq | refine zdq ?_ GE106.out | refine zdq ?_ GE107.out) | exact HB.out)⟩⟩
     ·
      replace c8 := Bool.eq_false_iff.mpr c8
      subst c8
      have H1 : (wide_Drop.l0 k1 (wrap64 (x1_1 - 64)) (decide (x107002_1 > 0)) 0 x107000_1 x107001_1) = some (r1, r2, r3, r4) := by rw [if_neg (show ¬ (false = true) by decide)] at H; exact H
      clear H
      have H := H1
      clear H1
      have H' := zA H
      clear H
      have hnb11 := NB106_107.out
      have hnc11 := NB107_106.out
      have hcz12_0 : wr.cell? ⟨gb106, 0, none⟩ = some (.int .u64 x107000_1) := (zmq BK106.out 0).trans rfl
      have hcz12_1 : wr.cell? ⟨gb106, 1, none⟩ = some (.int .u64 x107001_1) := (zmq BK106.out 1).trans rfl
      have hcz12_2 : wr.cell? ⟨gb106, 2, none⟩ = some (.int .u64 x107002_1) := (zmq BK106.out 2).trans rfl
      have hfz12_0 := znq BK106.out 0
      have hfz12_1 := znq BK106.out 1
      have hfz12_2 := znq BK106.out 2
      go_wp2
      go_roundg k1
      case measure => have := HK1.out; omega
      case rel => exact ⟨(wrap64 (x1_1 - 64)), (decide (x107002_1 > 0)), (0), (x107000_1), (x107001_1), (by first | rfl | (simp; done) | (simp [*]; done)), (by first | rfl | (simp; done) | (simp [*]; done)), H', ⟨by have := HK1.out; omega⟩, ⟨by (with_reducible repeat (first | refine zgq ?_ _ | refine zhq ?_ | refine ziq ?_ _)); refine zkq (cs := #[.int .u64 0, .int .u64 x107000_1, .int .u64 x107002_1]) ?_ 2 _ rfl; (with_reducible repeat (first | refine zgq ?_ _ | refine zhq ?_ | refine ziq ?_ _)); refine zkq (cs := #[.int .u64 0, .int .u64 x107001_1, .int .u64 x107002_1]) ?_ 1 _ rfl; (with_reducible repeat (first | refine zgq ?_ _ | refine zhq ?_ | refine ziq ?_ _)); refine zkq (cs := #[.int .u64 x107000_1, .int .u64 x107001_1, .int .u64 x107002_1]) ?_ 0 _ rfl; (with_reducible repeat (first | refine zgq ?_ _ | refine zhq ?_ | refine ziq ?_ _)); exact BK106.out⟩, ⟨by (with_reducible repeat (first | refine zgq ?_ _ | refine zhq ?_ | refine ziq ?_ _)); refine zjq ?_ NB107_106.out _; (with_reducible repeat (first | refine zgq ?_ _ | refine zhq ?_ | refine ziq ?_ _)); refine zjq ?_ NB107_106.out _; (with_reducible repeat (first | refine zgq ?_ _ | refine zhq ?_ | refine ziq ?_ _)); refine zjq ?_ NB107_106.out _; (with_reducible repeat (first | refine zgq ?_ _ | refine zhq ?_ | refine ziq ?_ _)); exact BK107.out⟩, ⟨by repeat (first | (with_reducible first | exact HB.out | apply zaq | apply zbq | apply zcq | refine zdq ?_ GE106.out | refine zdq ?_ GE107.out) | exact HB.out)⟩⟩
    ·
     rw [if_neg c7] at H
     have c7b0 : (!(x107000_1 == 0) || (!(x107001_1 == 0) || (!(x107002_1 == 0)))) = false := by simpa using c7
     clear c7
     by_cases c13 : (x107000_1 == 0 && (x107001_1 == 0 && (x107002_1 == 0))) = true
     ·
      rw [if_pos c13] at H
      have c13b0 : (x107000_1 == 0 && (x107001_1 == 0 && (x107002_1 == 0))) = true := c13
      (try (have c13b1 : decide (x107000_1 = 0 && (x107001_1 == 0 && (x107002_1 == 0))) = true := by simpa using c13))
      (try (have c13b2 : (x107000_1 == 0 && (x107001_1 == 0 && (x107002_1 == 0))) = true := by simpa using c13))
      clear c13
      simp only [Option.some.injEq, Prod.mk.injEq] at H
      obtain ⟨rfl, rfl, rfl, rfl⟩ := H
      have hnb14 := NB106_107.out
      have hnc14 := NB107_106.out
      have hcz15_0 : wr.cell? ⟨gb106, 0, none⟩ = some (.int .u64 x107000_1) := (zmq BK106.out 0).trans rfl
      have hcz15_1 : wr.cell? ⟨gb106, 1, none⟩ = some (.int .u64 x107001_1) := (zmq BK106.out 1).trans rfl
      have hcz15_2 : wr.cell? ⟨gb106, 2, none⟩ = some (.int .u64 x107002_1) := (zmq BK106.out 2).trans rfl
      have hfz15_0 := znq BK106.out 0
      have hfz15_1 := znq BK106.out 1
      have hfz15_2 := znq BK106.out 2
      have hcz16_0 : wr.cell? ⟨gb107, 0, none⟩ = some (.int .u64 0) := (zmq BK107.out 0).trans rfl
      have hcz16_1 : wr.cell? ⟨gb107, 1, none⟩ = some (.int .u64 0) := (zmq BK107.out 1).trans rfl
      have hcz16_2 : wr.cell? ⟨gb107, 2, none⟩ = some (.int .u64 0) := (zmq BK107.out 2).trans rfl
      have hfz16_0 := znq BK107.out 0
      have hfz16_1 := znq BK107.out 1
      have hfz16_2 := znq BK107.out 2
      go_wp2
      refine bodyPost_ret (results_ct rfl _ _ gb107 69 #[.int .u64 x107000_1, .int .u64 x107001_1, .int .u64 x107002_1] (0, 0) _ rfl (by (with_reducible repeat (first | refine zgq ?_ _ | refine zhq ?_ | refine ziq ?_ _)); refine zkq (cs := #[.int .u64 x107000_1, .int .u64 x107001_1, .int .u64 0]) ?_ 2 _ rfl; (with_reducible repeat (first | refine zgq ?_ _ | refine zhq ?_ | refine ziq ?_ _)); refine zkq (cs := #[.int .u64 x107000_1, .int .u64 0, .int .u64 0]) ?_ 1 _ rfl; (with_reducible repeat (first | refine zgq ?_ _ | refine zhq ?_ | refine ziq ?_ _)); refine zkq (cs := #[.int .u64 0, .int .u64 0, .int .u64 0]) ?_ 0 _ rfl; (with_reducible repeat (first | refine zgq ?_ _ | refine zhq ?_ | refine ziq ?_ _)); exact BK107.out) Try.underlying69 rfl (by kernel_rfl)) rfl ?_
      exact ⟨by first | rfl | (simp [errW_none, errW_some] <;> rfl) | (simp only [← hji3]; first | rfl | (simp [errW_none, errW_some] <;> rfl)) | (simp [*, errW_none, errW_some] <;> rfl), by repeat (first | (with_reducible first | exact HB.out | apply zaq | apply zbq | apply zcq | refine zdq ?_ GE106.out | refine zdq ?_ GE107.out) | exact HB.out)⟩
     ·
      exact absurd (show (x107000_1 == 0 && (x107001_1 == 0 && (x107002_1 == 0))) = true from by simpa using c7b0) c13
   ·
    rw [if_neg c6] at H
    have c6b0 : decide (64 ≤ x1_1) = false := decide_eq_false c6
    clear c6
    by_cases c56 : (x107000_1 == 0 && (x107001_1 == 0 && (x107002_1 == 0))) = true
    ·
     rw [if_pos c56] at H
     have c56b0 : (x107000_1 == 0 && (x107001_1 == 0 && (x107002_1 == 0))) = true := c56
     (try (have c56b1 : decide (x107000_1 = 0 && (x107001_1 == 0 && (x107002_1 == 0))) = true := by simpa using c56))
     (try (have c56b2 : (x107000_1 == 0 && (x107001_1 == 0 && (x107002_1 == 0))) = true := by simpa using c56))
     clear c56
     simp only [Option.some.injEq, Prod.mk.injEq] at H
     obtain ⟨rfl, rfl, rfl, rfl⟩ := H
     have hnb57 := NB106_107.out
     have hnc57 := NB107_106.out
     have hcz58_0 : wr.cell? ⟨gb106, 0, none⟩ = some (.int .u64 x107000_1) := (zmq BK106.out 0).trans rfl
     have hcz58_1 : wr.cell? ⟨gb106, 1, none⟩ = some (.int .u64 x107001_1) := (zmq BK106.out 1).trans rfl
     have hcz58_2 : wr.cell? ⟨gb106, 2, none⟩ = some (.int .u64 x107002_1) := (zmq BK106.out 2).trans rfl
     have hfz58_0 := znq BK106.out 0
     have hfz58_1 := znq BK106.out 1
     have hfz58_2 := znq BK106.out 2
     have hcz59_0 : wr.cell? ⟨gb107, 0, none⟩ = some (.int .u64 0) := (zmq BK107.out 0).trans rfl
     have hcz59_1 : wr.cell? ⟨gb107, 1, none⟩ = some (.int .u64 0) := (zmq BK107.out 1).trans rfl
     have hcz59_2 : wr.cell? ⟨gb107, 2, none⟩ = some (.int .u64 0) := (zmq BK107.out 2).trans rfl
     have hfz59_0 := znq BK107.out 0
     have hfz59_1 := znq BK107.out 1
     have hfz59_2 := znq BK107.out 2
     go_wp2
     refine bodyPost_ret (results_ct rfl _ _ gb107 69 #[.int .u64 x107000_1, .int .u64 x107001_1, .int .u64 x107002_1] (0, 0) _ rfl (by (with_reducible repeat (first | refine zgq ?_ _ | refine zhq ?_ | refine ziq ?_ _)); refine zkq (cs := #[.int .u64 x107000_1, .int .u64 x107001_1, .int .u64 0]) ?_ 2 _ rfl; (with_reducible repeat (first | refine zgq ?_ _ | refine zhq ?_ | refine ziq ?_ _)); refine zkq (cs := #[.int .u64 x107000_1, .int .u64 0, .int .u64 0]) ?_ 1 _ rfl; (with_reducible repeat (first | refine zgq ?_ _ | refine zhq ?_ | refine ziq ?_ _)); refine zkq (cs := #[.int .u64 0, .int .u64 0, .int .u64 0]) ?_ 0 _ rfl; (with_reducible repeat (first | refine zgq ?_ _ | refine zhq ?_ | refine ziq ?_ _)); exact BK107.out) Try.underlying69 rfl (by kernel_rfl)) rfl ?_
     exact ⟨by first | rfl | (simp [errW_none, errW_some] <;> rfl) | (simp only [← hji3]; first | rfl | (simp [errW_none, errW_some] <;> rfl)) | (simp [*, errW_none, errW_some] <;> rfl), by repeat (first | (with_reducible first | exact HB.out | apply zaq | apply zbq | apply zcq | refine zdq ?_ GE106.out | refine zdq ?_ GE107.out) | exact HB.out)⟩
    ·
     rw [if_neg c56] at H
     have c56b0 : (x107000_1 == 0 && (x107001_1 == 0 && (x107002_1 == 0))) = false := by simpa using c56
     (try (have c56b1 : decide (x107000_1 = 0 && (x107001_1 == 0 && (x107002_1 == 0))) = false := by simpa using c56))
     (try (have c56b2 : (x107000_1 == 0 && (x107001_1 == 0 && (x107002_1 == 0))) = false := by simpa using c56))
     (try (have c56b3 : ¬ (x107000_1 = 0 && (x107001_1 == 0 && (x107002_1 == 0))) := by simpa using c56))
     clear c56
     by_cases c60 : x6_1 = true
     ·
      subst c60
      have H1 : (if 0 ≤ x1_1 then (if 0 ≤ (wrap64 (64 - x1_1)) then (some (shr .u64 x107000_1 x1_1, Go.bits .or .u64 (shr .u64 x107001_1 x1_1) (shl .u64 x107000_1 (wrap64 (64 - x1_1))), Go.bits .or .u64 (shr .u64 x107002_1 x1_1) (shl .u64 x107001_1 (wrap64 (64 - x1_1))), true)) else (none)) else (none)) = some (r1, r2, r3, r4) := by rw [if_pos rfl] at H; exact H
      clear H
      have H := H1
      clear H1
      by_cases c61 : 0 ≤ x1_1
      ·
       rw [if_pos c61] at H
       have c61b0 := eq_true c61
       have c61b1 : decide (0 ≤ x1_1) = true := decide_eq_true c61
       clear c61
       obtain ⟨ji62, hji62⟩ : ∃ j_ : Int, (shr .u64 x107000_1 x1_1) = j_ := ⟨_, rfl⟩
       replace H : (if 0 ≤ (wrap64 (64 - x1_1)) then (some (ji62, Go.bits .or .u64 (shr .u64 x107001_1 x1_1) (shl .u64 x107000_1 (wrap64 (64 - x1_1))), Go.bits .or .u64 (shr .u64 x107002_1 x1_1) (shl .u64 x107001_1 (wrap64 (64 - x1_1))), true)) else (none)) = some (r1, r2, r3, r4) := by first | (rw [hji62] at H; exact H) | (simp only [hji62] at H ⊢; exact H)
       have hji62_ : (x107000_1 / 2 ^ min x1_1.toNat 64) = ji62 := hji62
       have hji62z : x1_1 ≤ 64 → (x107000_1 / 2 ^ x1_1.toNat) = ji62 := shr_small hji62
       have c63b0 := eq_true (of_decide_eq_true (by first | (with_reducible assumption) | assumption) : 0 ≤ x1_1)
       obtain ⟨ji64, hji64⟩ : ∃ j_ : Int, (shr .u64 x107001_1 x1_1) = j_ := ⟨_, rfl⟩
       replace H : (if 0 ≤ (wrap64 (64 - x1_1)) then (some (ji62, Go.bits .or .u64 (ji64) (shl .u64 x107000_1 (wrap64 (64 - x1_1))), Go.bits .or .u64 (shr .u64 x107002_1 x1_1) (shl .u64 x107001_1 (wrap64 (64 - x1_1))), true)) else (none)) = some (r1, r2, r3, r4) := by first | (rw [hji64] at H; exact H) | (simp only [hji64] at H ⊢; exact H)
       have hji64_ : (x107001_1 / 2 ^ min x1_1.toNat 64) = ji64 := hji64
       have hji64z : x1_1 ≤ 64 → (x107001_1 / 2 ^ x1_1.toNat) = ji64 := shr_small hji64
       obtain ⟨ji65, hji65⟩ : ∃ j_ : Int, (wrap64 (64 - x1_1)) = j_ := ⟨_, rfl⟩
       replace H : (if 0 ≤ (ji65) then (some (ji62, Go.bits .or .u64 (ji64) (shl .u64 x107000_1 (ji65)), Go.bits .or .u64 (shr .u64 x107002_1 x1_1) (shl .u64 x107001_1 (ji65)), true)) else (none)) = some (r1, r2, r3, r4) := by first | (rw [hji65] at H; exact H) | (simp only [hji65] at H ⊢; exact H)
       have hji65w : (IntKind.i64.wrap (64 - x1_1)) = ji65 := (i64_w _).trans hji65
       by_cases c66 : 0 ≤ (ji65)
       ·
        rw [if_pos c66] at H
        have c66b0 := eq_true c66
        have c66b1 : decide (0 ≤ (ji65)) = true := decide_eq_true c66
        clear c66
        obtain ⟨ji67, hji67⟩ : ∃ j_ : Int, (shl .u64 x107000_1 (ji65)) = j_ := ⟨_, rfl⟩
        replace H : (some (ji62, Go.bits .or .u64 (ji64) (ji67), Go.bits .or .u64 (shr .u64 x107002_1 x1_1) (shl .u64 x107001_1 (ji65)), true)) = some (r1, r2, r3, r4) := by first | (rw [hji67] at H; exact H) | (simp only [hji67] at H ⊢; exact H)
        have hji67_ : (IntKind.u64.wrap (x107000_1 * 2 ^ min (ji65).toNat 64)) = ji67 := hji67
        have hji67z : (ji65) ≤ 64 → (IntKind.u64.wrap (x107000_1 * 2 ^ (ji65).toNat)) = ji67 := shl_small hji67
        have c68b0 := eq_true (of_decide_eq_true (by first | (with_reducible assumption) | assumption) : 0 ≤ x1_1)
        obtain ⟨ji69, hji69⟩ : ∃ j_ : Int, (shr .u64 x107002_1 x1_1) = j_ := ⟨_, rfl⟩
        replace H : (some (ji62, Go.bits .or .u64 (ji64) (ji67), Go.bits .or .u64 (ji69) (shl .u64 x107001_1 (ji65)), true)) = some (r1, r2, r3, r4) := by first | (rw [hji69] at H; exact H) | (simp only [hji69] at H ⊢; exact H)
        have hji69_ : (x107002_1 / 2 ^ min x1_1.toNat 64) = ji69 := hji69
        have hji69z : x1_1 ≤ 64 → (x107002_1 / 2 ^ x1_1.toNat) = ji69 := shr_small hji69
        have c70b0 := eq_true (of_decide_eq_true (by first | (with_reducible assumption) | assumption) : 0 ≤ (ji65))
        obtain ⟨ji71, hji71⟩ : ∃ j_ : Int, (shl .u64 x107001_1 (ji65)) = j_ := ⟨_, rfl⟩
        replace H : (some (ji62, Go.bits .or .u64 (ji64) (ji67), Go.bits .or .u64 (ji69) (ji71), true)) = some (r1, r2, r3, r4) := by first | (rw [hji71] at H; exact H) | (simp only [hji71] at H ⊢; exact H)
        have hji71_ : (IntKind.u64.wrap (x107001_1 * 2 ^ min (ji65).toNat 64)) = ji71 := hji71
        have hji71z : (ji65) ≤ 64 → (IntKind.u64.wrap (x107001_1 * 2 ^ (ji65).toNat)) = ji71 := shl_small hji71
        simp only [Option.some.injEq, Prod.mk.injEq] at H
        obtain ⟨rfl, rfl, rfl, rfl⟩ := H
        have hnb72 := NB106_107.out
        have hnc72 := NB107_106.out
        have hcz73_0 : wr.cell? ⟨gb106, 0, none⟩ = some (.int .u64 x107000_1) := (zmq BK106.out 0).trans rfl
        have hcz73_1 : wr.cell? ⟨gb106, 1, none⟩ = some (.int .u64 x107001_1) := (zmq BK106.out 1).trans rfl
        have hcz73_2 : wr.cell? ⟨gb106, 2, none⟩ = some (.int .u64 x107002_1) := (zmq BK106.out 2).trans rfl
        have hfz73_0 := znq BK106.out 0
        have hfz73_1 := znq BK106.out 1
        have hfz73_2 := znq BK106.out 2
        try go_wp2
        have n0_ := zA (zhq BK106.out)
        have n1_ := zA (zhq BK107.out)
        have n2_ := zA (zcq HB.out)
        clear BK106
        clear BK107
        clear HB
        have BK106 := n0_
        have BK107 := n1_
        have HB := n2_
        clear n0_ n1_ n2_
        refine start_ (n := 11) (S := fun w' => True) (ds := []) #[false, false, false, false, false, false, false, false, false, false, false] (by kernel_rfl) rfl rfl trivial (fun hHeld => ?_); refine with_tabW wide_Drop.tab9 wide_Drop.bits9 (fun HT_ HW_ => ?_)
        generalize wr.drew = w74 at BK106 BK107 HB hHeld ⊢
        refine pure_ (i := 0) (N := some 34) (v := ?_) (a' := ?_) #[true, false, false, false, false, false, false, false, false, false, false] rfl rfl (any_of HT_.out (by kernel_rfl)) (fun _ _ _ h => h) (Or.inl ⟨by rfl, ?_⟩) ?_ ?_
        rotate_left
        ·
         intro w'
         go_simp
         with_reducible rfl
        rotate_left
        ·
         simp only [Act.put, List.setIfInBounds_toArray, List.set_cons_zero, List.set_cons_succ, i64_w, i32_w]
         rfl
        refine pure_ (i := 1) (N := some 35) (v := ?_) (a' := ?_) #[true, true, false, false, false, false, false, false, false, false, false] rfl rfl (any_of HT_.out (by kernel_rfl)) (fun _ _ _ h => h) (Or.inl ⟨by rfl, ?_⟩) ?_ ?_
        rotate_left
        ·
         intro w'
         go_simp
         with_reducible rfl
        rotate_left
        ·
         simp only [Act.put, List.setIfInBounds_toArray, List.set_cons_zero, List.set_cons_succ, i64_w, i32_w]
         rfl
        refine pure_ (i := 2) (N := some 36) (v := undef) (a' := ?_) #[true, true, true, false, false, false, false, false, false, false, false] rfl rfl (any_of HT_.out (by kernel_rfl)) (fun _ _ _ h => h) (Or.inr ⟨by rfl, rfl⟩) ?_ ?_
        rotate_left
        ·
         simp only [Act.put, List.setIfInBounds_toArray, List.set_cons_zero, List.set_cons_succ, i64_w, i32_w]
         rfl
        refine pure_ (i := 3) (N := some 37) (v := undef) (a' := ?_) #[true, true, true, true, false, false, false, false, false, false, false] rfl rfl (any_of HT_.out (by kernel_rfl)) (fun _ _ _ h => h) (Or.inr ⟨by rfl, rfl⟩) ?_ ?_
        rotate_left
        ·
         simp only [Act.put, List.setIfInBounds_toArray, List.set_cons_zero, List.set_cons_succ, i64_w, i32_w]
         rfl
        refine pure_ (i := 4) (N := some 38) (v := undef) (a' := ?_) #[true, true, true, true, true, false, false, false, false, false, false] rfl rfl (any_of HT_.out (by kernel_rfl)) (fun _ _ _ h => h) (Or.inr ⟨by rfl, rfl⟩) ?_ ?_
        rotate_left
        ·
         simp only [Act.put, List.setIfInBounds_toArray, List.set_cons_zero, List.set_cons_succ, i64_w, i32_w]
         rfl
        refine pure_ (i := 5) (N := some 39) (v := undef) (a' := ?_) #[true, true, true, true, true, true, false, false, false, false, false] rfl rfl (any_of HT_.out (by kernel_rfl)) (fun _ _ _ h => h) (Or.inr ⟨by rfl, rfl⟩) ?_ ?_
        rotate_left
        ·
         simp only [Act.put, List.setIfInBounds_toArray, List.set_cons_zero, List.set_cons_succ, i64_w, i32_w]
         rfl
        refine pure_ (i := 6) (N := some 40) (v := undef) (a' := ?_) #[true, true, true, true, true, true, true, false, false, false, false] rfl rfl (any_of HT_.out (by kernel_rfl)) (fun _ _ _ h => h) (Or.inr ⟨by rfl, rfl⟩) ?_ ?_
        rotate_left
        ·
         simp only [Act.put, List.setIfInBounds_toArray, List.set_cons_zero, List.set_cons_succ, i64_w, i32_w]
         rfl
        refine pure_ (i := 7) (N := some 41) (v := undef) (a' := ?_) #[true, true, true, true, true, true, true, true, false, false, false] rfl rfl (any_of HT_.out (by kernel_rfl)) (fun _ _ _ h => h) (Or.inr ⟨by rfl, rfl⟩) ?_ ?_
        rotate_left
        ·
         simp only [Act.put, List.setIfInBounds_toArray, List.set_cons_zero, List.set_cons_succ, i64_w, i32_w]
         rfl
        refine pure_ (i := 8) (N := some 42) (v := undef) (a' := ?_) #[true, true, true, true, true, true, true, true, true, false, false] rfl rfl (any_of HT_.out (by kernel_rfl)) (fun _ _ _ h => h) (Or.inr ⟨by rfl, rfl⟩) ?_ ?_
        rotate_left
        ·
         simp only [Act.put, List.setIfInBounds_toArray, List.set_cons_zero, List.set_cons_succ, i64_w, i32_w]
         rfl
        refine pure_ (i := 9) (N := some 43) (v := ?_) (a' := ?_) #[true, true, true, true, true, true, true, true, true, true, false] rfl rfl (any_of HT_.out (by kernel_rfl)) (fun _ _ _ h => h) (Or.inl ⟨by rfl, ?_⟩) ?_ ?_
        rotate_left
        ·
         intro w'
         go_simp
         with_reducible rfl
        rotate_left
        ·
         simp only [Act.put, List.setIfInBounds_toArray, List.set_cons_zero, List.set_cons_succ, i64_w, i32_w]
         rfl
        refine pure_ (i := 10) (N := some 6) (v := ?_) (a' := ?_) #[true, true, true, true, true, true, true, true, true, true, true] rfl rfl (any_of HT_.out (by kernel_rfl)) (fun _ _ _ h => h) (Or.inl ⟨by rfl, ?_⟩) ?_ ?_
        rotate_left
        ·
         intro w'
         go_simp
         with_reducible rfl
        rotate_left
        ·
         simp only [Act.put, List.setIfInBounds_toArray, List.set_cons_zero, List.set_cons_succ, i64_w, i32_w]
         rfl
        refine done_ (done_of HT_.out (by kernel_rfl)) ?_
        try go_wp2
        have n0_ := zA (zhq BK106.out)
        have n1_ := zA (zhq BK107.out)
        have n2_ := zA (zcq HB.out)
        clear BK106
        clear BK107
        clear HB
        have BK106 := n0_
        have BK107 := n1_
        have HB := n2_
        clear n0_ n1_ n2_
        refine start_ (n := 28) (S := fun w' => w'.cell? ⟨gb106, 0, none⟩ = some (.int .u64 x107000_1) ∧ w'.cell? ⟨gb106, 1, none⟩ = some (.int .u64 x107001_1) ∧ w'.cell? ⟨gb106, 2, none⟩ = some (.int .u64 x107002_1)) (ds := []) #[false, false, false, false, false, false, false, false, false, false, false, false, false, false, false, false, false, false, false, false, false, false, false, false, false, false, false, false] (by kernel_rfl) rfl rfl ⟨(zmq BK106.out 0).trans rfl, (zmq BK106.out 1).trans rfl, (zmq BK106.out 2).trans rfl⟩ (fun hHeld => ?_); refine with_tabW wide_Drop.tab10 wide_Drop.bits10 (fun HT_ HW_ => ?_)
        generalize w74.drew = w75 at BK106 BK107 HB hHeld ⊢
        refine pure_ (i := 0) (N := some 44) (v := ?_) (a' := ?_) #[true, false, false, false, false, false, false, false, false, false, false, false, false, false, false, false, false, false, false, false, false, false, false, false, false, false, false, false] rfl rfl (any_of HT_.out (by kernel_rfl)) (fun _ _ _ h => h) (Or.inl ⟨by rfl, ?_⟩) ?_ ?_
        rotate_left
        ·
         intro w'
         go_simp
         with_reducible rfl
        rotate_left
        ·
         simp only [Act.put, List.setIfInBounds_toArray, List.set_cons_zero, List.set_cons_succ, i64_w, i32_w]
         rfl
        refine pure_ (i := 2) (N := some 46) (v := ?_) (a' := ?_) #[true, false, true, false, false, false, false, false, false, false, false, false, false, false, false, false, false, false, false, false, false, false, false, false, false, false, false, false] rfl rfl (any_of HT_.out (by kernel_rfl)) (fun _ _ _ h => h) (Or.inl ⟨by rfl, ?_⟩) ?_ ?_
        rotate_left
        ·
         intro w'
         go_simp
         with_reducible rfl
        rotate_left
        ·
         simp only [Act.put, List.setIfInBounds_toArray, List.set_cons_zero, List.set_cons_succ, i64_w, i32_w]
         rfl
        refine pure_ (i := 4) (N := some 48) (v := ?_) (a' := ?_) #[true, false, true, false, true, false, false, false, false, false, false, false, false, false, false, false, false, false, false, false, false, false, false, false, false, false, false, false] rfl rfl (any_of HT_.out (by kernel_rfl)) (fun _ _ _ h => h) (Or.inl ⟨by rfl, ?_⟩) ?_ ?_
        rotate_left
        ·
         intro w'
         go_simp
         with_reducible rfl
        rotate_left
        ·
         simp only [Act.put, List.setIfInBounds_toArray, List.set_cons_zero, List.set_cons_succ, i64_w, i32_w]
         rfl
        refine pure_ (i := 6) (N := some 50) (v := ?_) (a' := ?_) #[true, false, true, false, true, false, true, false, false, false, false, false, false, false, false, false, false, false, false, false, false, false, false, false, false, false, false, false] rfl rfl (any_of HT_.out (by kernel_rfl)) (fun _ _ _ h => h) (Or.inl ⟨by rfl, ?_⟩) ?_ ?_
        rotate_left
        ·
         intro w'
         go_simp
         with_reducible rfl
        rotate_left
        ·
         simp only [Act.put, List.setIfInBounds_toArray, List.set_cons_zero, List.set_cons_succ, i64_w, i32_w]
         rfl
        refine pure_ (i := 8) (N := some 52) (v := ?_) (a' := ?_) #[true, false, true, false, true, false, true, false, true, false, false, false, false, false, false, false, false, false, false, false, false, false, false, false, false, false, false, false] rfl rfl (any_of HT_.out (by kernel_rfl)) (fun _ _ _ h => h) (Or.inl ⟨by rfl, ?_⟩) ?_ ?_
        rotate_left
        ·
         intro w'
         go_simp
         with_reducible rfl
        rotate_left
        ·
         simp only [Act.put, List.setIfInBounds_toArray, List.set_cons_zero, List.set_cons_succ, i64_w, i32_w]
         rfl
        refine pure_ (i := 10) (N := some 54) (v := ?_) (a' := ?_) #[true, false, true, false, true, false, true, false, true, false, true, false, false, false, false, false, false, false, false, false, false, false, false, false, false, false, false, false] rfl rfl (any_of HT_.out (by kernel_rfl)) (fun _ _ _ h => h) (Or.inl ⟨by rfl, ?_⟩) ?_ ?_
        rotate_left
        ·
         intro w'
         go_simp
         with_reducible rfl
        rotate_left
        ·
         simp only [Act.put, List.setIfInBounds_toArray, List.set_cons_zero, List.set_cons_succ, i64_w, i32_w]
         rfl
        refine pure_ (i := 11) (N := some 55) (v := ?_) (a' := ?_) #[true, false, true, false, true, false, true, false, true, false, true, true, false, false, false, false, false, false, false, false, false, false, false, false, false, false, false, false] rfl rfl (any_of HT_.out (by kernel_rfl)) (fun _ _ _ h => h) (Or.inl ⟨by rfl, ?_⟩) ?_ ?_
        rotate_left
        ·
         intro w'
         go_simp
         with_reducible rfl
        rotate_left
        ·
         simp only [Act.put, List.setIfInBounds_toArray, List.set_cons_zero, List.set_cons_succ, i64_w, i32_w]
         rfl
        refine pure_ (i := 14) (N := some 58) (v := ?_) (a' := ?_) #[true, false, true, false, true, false, true, false, true, false, true, true, false, false, true, false, false, false, false, false, false, false, false, false, false, false, false, false] rfl rfl (any_of HT_.out (by kernel_rfl)) (fun _ _ _ h => h) (Or.inl ⟨by rfl, ?_⟩) ?_ ?_
        rotate_left
        ·
         intro w'
         go_simp
         with_reducible rfl
        rotate_left
        ·
         simp only [Act.put, List.setIfInBounds_toArray, List.set_cons_zero, List.set_cons_succ, i64_w, i32_w]
         rfl
        refine pure_ (i := 16) (N := some 60) (v := ?_) (a' := ?_) #[true, false, true, false, true, false, true, false, true, false, true, true, false, false, true, false, true, false, false, false, false, false, false, false, false, false, false, false] rfl rfl (any_of HT_.out (by kernel_rfl)) (fun _ _ _ h => h) (Or.inl ⟨by rfl, ?_⟩) ?_ ?_
        rotate_left
        ·
         intro w'
         go_simp
         with_reducible rfl
        rotate_left
        ·
         simp only [Act.put, List.setIfInBounds_toArray, List.set_cons_zero, List.set_cons_succ, i64_w, i32_w]
         rfl
        refine pure_ (i := 18) (N := some 62) (v := ?_) (a' := ?_) #[true, false, true, false, true, false, true, false, true, false, true, true, false, false, true, false, true, false, true, false, false, false, false, false, false, false, false, false] rfl rfl (any_of HT_.out (by kernel_rfl)) (fun _ _ _ h => h) (Or.inl ⟨by rfl, ?_⟩) ?_ ?_
        rotate_left
        ·
         intro w'
         go_simp
         with_reducible rfl
        rotate_left
        ·
         simp only [Act.put, List.setIfInBounds_toArray, List.set_cons_zero, List.set_cons_succ, i64_w, i32_w]
         rfl
        refine pure_ (i := 20) (N := some 64) (v := ?_) (a' := ?_) #[true, false, true, false, true, false, true, false, true, false, true, true, false, false, true, false, true, false, true, false, true, false, false, false, false, false, false, false] rfl rfl (any_of HT_.out (by kernel_rfl)) (fun _ _ _ h => h) (Or.inl ⟨by rfl, ?_⟩) ?_ ?_
        rotate_left
        ·
         intro w'
         go_simp
         with_reducible rfl
        rotate_left
        ·
         simp only [Act.put, List.setIfInBounds_toArray, List.set_cons_zero, List.set_cons_succ, i64_w, i32_w]
         rfl
        refine pure_ (i := 21) (N := some 65) (v := ?_) (a' := ?_) #[true, false, true, false, true, false, true, false, true, false, true, true, false, false, true, false, true, false, true, false, true, true, false, false, false, false, false, false] rfl rfl (any_of HT_.out (by kernel_rfl)) (fun _ _ _ h => h) (Or.inl ⟨by rfl, ?_⟩) ?_ ?_
        rotate_left
        ·
         intro w'
         go_simp
         with_reducible rfl
        rotate_left
        ·
         simp only [Act.put, List.setIfInBounds_toArray, List.set_cons_zero, List.set_cons_succ, i64_w, i32_w]
         rfl
        refine pure_ (i := 25) (N := some 69) (v := ?_) (a' := ?_) #[true, false, true, false, true, false, true, false, true, false, true, true, false, false, true, false, true, false, true, false, true, true, false, false, false, true, false, false] rfl rfl (any_of HT_.out (by kernel_rfl)) (fun _ _ _ h => h) (Or.inl ⟨by rfl, ?_⟩) ?_ ?_
        rotate_left
        ·
         intro w'
         go_simp
         with_reducible rfl
        rotate_left
        ·
         simp only [Act.put, List.setIfInBounds_toArray, List.set_cons_zero, List.set_cons_succ, i64_w, i32_w]
         rfl
        refine take_ (i := 1) (N := some 45) (v := ?_) (a' := ?_) #[true, true, true, false, true, false, true, false, true, false, true, true, false, false, true, false, true, false, true, false, true, true, false, false, false, true, false, false] rfl rfl (take_ofW HT_.out HW_.out (by kernel_rfl)) (fun _ _ _ h => h) (Or.inl ⟨by rfl, ?_⟩) hHeld ?_ ?_
        rotate_left
        ·
         rintro w' ⟨s0, s1, s2⟩
         go_simp
         with_reducible rfl
        rotate_left
        ·
         simp only [Act.put, List.setIfInBounds_toArray, List.set_cons_zero, List.set_cons_succ, i64_w, i32_w]
         rfl
        refine pure_ (i := 3) (N := some 47) (v := ?_) (a' := ?_) #[true, true, true, true, true, false, true, false, true, false, true, true, false, false, true, false, true, false, true, false, true, true, false, false, false, true, false, false] rfl rfl (any_of HT_.out (by kernel_rfl)) (fun _ _ _ h => h) (Or.inl ⟨by rfl, ?_⟩) ?_ ?_
        rotate_left
        ·
         intro w'
         go_simp
         with_reducible rfl
        rotate_left
        ·
         simp only [Act.put, List.setIfInBounds_toArray, List.set_cons_zero, List.set_cons_succ, i64_w, i32_w]
         rfl
        refine take_ (i := 5) (N := some 49) (v := ?_) (a' := ?_) #[true, true, true, true, true, true, true, false, true, false, true, true, false, false, true, false, true, false, true, false, true, true, false, false, false, true, false, false] rfl rfl (take_ofW HT_.out HW_.out (by kernel_rfl)) (fun _ _ _ h => h) (Or.inl ⟨by rfl, ?_⟩) hHeld ?_ ?_
        rotate_left
        ·
         rintro w' ⟨s0, s1, s2⟩
         go_simp
         with_reducible rfl
        rotate_left
        ·
         simp only [Act.put, List.setIfInBounds_toArray, List.set_cons_zero, List.set_cons_succ, i64_w, i32_w]
         rfl
        refine pure_ (i := 7) (N := some 51) (v := ?_) (a' := ?_) #[true, true, true, true, true, true, true, true, true, false, true, true, false, false, true, false, true, false, true, false, true, true, false, false, false, true, false, false] rfl rfl (any_of HT_.out (by kernel_rfl)) (fun _ _ _ h => h) (Or.inl ⟨by rfl, ?_⟩) ?_ ?_
        rotate_left
        ·
         intro w'
         go_simp
         with_reducible rfl
        rotate_left
        ·
         simp only [Act.put, List.setIfInBounds_toArray, List.set_cons_zero, List.set_cons_succ, i64_w, i32_w]
         rfl
        refine take_ (i := 9) (N := some 53) (v := ?_) (a' := ?_) #[true, true, true, true, true, true, true, true, true, true, true, true, false, false, true, false, true, false, true, false, true, true, false, false, false, true, false, false] rfl rfl (take_ofW HT_.out HW_.out (by kernel_rfl)) (fun _ _ _ h => h) (Or.inl ⟨by rfl, ?_⟩) hHeld ?_ ?_
        rotate_left
        ·
         rintro w' ⟨s0, s1, s2⟩
         go_simp
         with_reducible rfl
        rotate_left
        ·
         simp only [Act.put, List.setIfInBounds_toArray, List.set_cons_zero, List.set_cons_succ, i64_w, i32_w]
         rfl
        refine pure_ (i := 12) (N := some 56) (v := ?_) (a' := ?_) #[true, true, true, true, true, true, true, true, true, true, true, true, true, false, true, false, true, false, true, false, true, true, false, false, false, true, false, false] rfl rfl (any_of HT_.out (by kernel_rfl)) (fun _ _ _ h => h) (Or.inl ⟨by rfl, ?_⟩) ?_ ?_
        rotate_left
        ·
         intro w'
         go_simp
         with_reducible rfl
        rotate_left
        ·
         simp only [Act.put, List.setIfInBounds_toArray, List.set_cons_zero, List.set_cons_succ, i64_w, i32_w]
         rfl
        refine pure_ (i := 13) (N := some 57) (v := ?_) (a' := ?_) #[true, true, true, true, true, true, true, true, true, true, true, true, true, true, true, false, true, false, true, false, true, true, false, false, false, true, false, false] rfl rfl (any_of HT_.out (by kernel_rfl)) (fun _ _ _ h => h) (Or.inl ⟨by rfl, ?_⟩) ?_ ?_
        rotate_left
        ·
         intro w'
         go_simp
         with_reducible rfl
        rotate_left
        ·
         simp only [Act.put, List.setIfInBounds_toArray, List.set_cons_zero, List.set_cons_succ, i64_w, i32_w]
         rfl
        refine take_ (i := 15) (N := some 59) (v := ?_) (a' := ?_) #[true, true, true, true, true, true, true, true, true, true, true, true, true, true, true, true, true, false, true, false, true, true, false, false, false, true, false, false] rfl rfl (take_ofW HT_.out HW_.out (by kernel_rfl)) (fun _ _ _ h => h) (Or.inl ⟨by rfl, ?_⟩) hHeld ?_ ?_
        rotate_left
        ·
         rintro w' ⟨s0, s1, s2⟩
         go_simp
         with_reducible rfl
        rotate_left
        ·
         simp only [Act.put, List.setIfInBounds_toArray, List.set_cons_zero, List.set_cons_succ, i64_w, i32_w]
         rfl
        refine pure_ (i := 17) (N := some 61) (v := ?_) (a' := ?_) #[true, true, true, true, true, true, true, true, true, true, true, true, true, true, true, true, true, true, true, false, true, true, false, false, false, true, false, false] rfl rfl (any_of HT_.out (by kernel_rfl)) (fun _ _ _ h => h) (Or.inl ⟨by rfl, ?_⟩) ?_ ?_
        rotate_left
        ·
         intro w'
         go_simp
         with_reducible rfl
        rotate_left
        ·
         simp only [Act.put, List.setIfInBounds_toArray, List.set_cons_zero, List.set_cons_succ, i64_w, i32_w]
         rfl
        refine take_ (i := 19) (N := some 63) (v := ?_) (a' := ?_) #[true, true, true, true, true, true, true, true, true, true, true, true, true, true, true, true, true, true, true, true, true, true, false, false, false, true, false, false] rfl rfl (take_ofW HT_.out HW_.out (by kernel_rfl)) (fun _ _ _ h => h) (Or.inl ⟨by rfl, ?_⟩) hHeld ?_ ?_
        rotate_left
        ·
         rintro w' ⟨s0, s1, s2⟩
         go_simp
         with_reducible rfl
        rotate_left
        ·
         simp only [Act.put, List.setIfInBounds_toArray, List.set_cons_zero, List.set_cons_succ, i64_w, i32_w]
         rfl
        refine pure_ (i := 22) (N := some 66) (v := ?_) (a' := ?_) #[true, true, true, true, true, true, true, true, true, true, true, true, true, true, true, true, true, true, true, true, true, true, true, false, false, true, false, false] rfl rfl (any_of HT_.out (by kernel_rfl)) (fun _ _ _ h => h) (Or.inl ⟨by rfl, ?_⟩) ?_ ?_
        rotate_left
        ·
         intro w'
         go_simp
         with_reducible rfl
        rotate_left
        ·
         simp only [Act.put, List.setIfInBounds_toArray, List.set_cons_zero, List.set_cons_succ, i64_w, i32_w]
         rfl
        refine pure_ (i := 23) (N := some 67) (v := ?_) (a' := ?_) #[true, true, true, true, true, true, true, true, true, true, true, true, true, true, true, true, true, true, true, true, true, true, true, true, false, true, false, false] rfl rfl (any_of HT_.out (by kernel_rfl)) (fun _ _ _ h => h) (Or.inl ⟨by rfl, ?_⟩) ?_ ?_
        rotate_left
        ·
         intro w'
         go_simp
         with_reducible rfl
        rotate_left
        ·
         simp only [Act.put, List.setIfInBounds_toArray, List.set_cons_zero, List.set_cons_succ, i64_w, i32_w]
         rfl
        refine pure_ (i := 24) (N := some 68) (v := ?_) (a' := ?_) #[true, true, true, true, true, true, true, true, true, true, true, true, true, true, true, true, true, true, true, true, true, true, true, true, true, true, false, false] rfl rfl (any_of HT_.out (by kernel_rfl)) (fun _ _ _ h => h) (Or.inl ⟨by rfl, ?_⟩) ?_ ?_
        rotate_left
        ·
         intro w'
         go_simp
         with_reducible rfl
        rotate_left
        ·
         simp only [Act.put, List.setIfInBounds_toArray, List.set_cons_zero, List.set_cons_succ, i64_w, i32_w]
         rfl
        refine one_ (i := 26) (N := none) #[true, true, true, true, true, true, true, true, true, true, true, true, true, true, true, true, true, true, true, true, true, true, true, true, true, true, true, false] rfl rfl (one_of HT_.out (by kernel_rfl)) (by decide) (fun K hK => ?_)
        have hs76 : w75.cell? ⟨gb107, 0, none⟩ = some (.int .u64 0) := (zmq BK107.out 0).trans rfl
        have hfs76 := znq BK107.out 0
        have hns76_0 := NB106_107.out
        have hms76_0 := NB107_106.out
        have hs77 : w75.cell? ⟨gb107, 1, none⟩ = some (.int .u64 0) := (zmq BK107.out 1).trans rfl
        have hfs77 := znq BK107.out 1
        have hns77_0 := NB106_107.out
        have hms77_0 := NB107_106.out
        have hs78 : w75.cell? ⟨gb107, 2, none⟩ = some (.int .u64 0) := (zmq BK107.out 2).trans rfl
        have hfs78 := znq BK107.out 2
        have hns78_0 := NB106_107.out
        have hms78_0 := NB107_106.out
        refine skip_ (w1 := ?_) (by rfl) rfl ?_ ?_
        rotate_left
        ·
         go_simp
         rfl
        refine hK.out _ _ ⟨((cell_far (p := ⟨gb107, _, none⟩) NB106_107.out _).trans (((cell_far (p := ⟨gb107, _, none⟩) NB106_107.out _).trans (((cell_far (p := ⟨gb107, _, none⟩) NB106_107.out _).trans (hHeld.1)))))), ((cell_far (p := ⟨gb107, _, none⟩) NB106_107.out _).trans (((cell_far (p := ⟨gb107, _, none⟩) NB106_107.out _).trans (((cell_far (p := ⟨gb107, _, none⟩) NB106_107.out _).trans (hHeld.2.1)))))), ((cell_far (p := ⟨gb107, _, none⟩) NB106_107.out _).trans (((cell_far (p := ⟨gb107, _, none⟩) NB106_107.out _).trans (((cell_far (p := ⟨gb107, _, none⟩) NB106_107.out _).trans (hHeld.2.2))))))⟩ (fun hHeld => ?_)
        clear hK K
        refine pure_ (i := 27) (N := some 5) (v := ?_) (a' := ?_) #[true, true, true, true, true, true, true, true, true, true, true, true, true, true, true, true, true, true, true, true, true, true, true, true, true, true, true, true] rfl rfl (any_of HT_.out (by kernel_rfl)) (fun _ _ _ h => h) (Or.inl ⟨by rfl, ?_⟩) ?_ ?_
        rotate_left
        ·
         intro w'
         go_simp
         with_reducible rfl
        rotate_left
        ·
         simp only [Act.put, List.setIfInBounds_toArray, List.set_cons_zero, List.set_cons_succ, i64_w, i32_w]
         rfl
        refine done_ (done_of HT_.out (by kernel_rfl)) ?_
        try go_wp2
        refine bodyPost_ret (results_ct rfl _ _ gb107 69 #[.int .u64 ji62, .int .u64 (Go.bits .or .u64 (ji64) (ji67)), .int .u64 (Go.bits .or .u64 (ji69) (ji71))] (0, 0) _ rfl (by (with_reducible repeat (first | refine zgq ?_ _ | refine zhq ?_ | refine ziq ?_ _)); refine zkq (cs := #[.int .u64 ji62, .int .u64 (Go.bits .or .u64 (ji64) (ji67)), .int .u64 0]) ?_ 2 _ rfl; (with_reducible repeat (first | refine zgq ?_ _ | refine zhq ?_ | refine ziq ?_ _)); refine zkq (cs := #[.int .u64 ji62, .int .u64 0, .int .u64 0]) ?_ 1 _ rfl; (with_reducible repeat (first | refine zgq ?_ _ | refine zhq ?_ | refine ziq ?_ _)); refine zkq (cs := #[.int .u64 0, .int .u64 0, .int .u64 0]) ?_ 0 _ rfl; (with_reducible repeat (first | refine zgq ?_ _ | refine zhq ?_ | refine ziq ?_ _)); exact BK107.out) Try.underlying69 rfl (by kernel_rfl)) rfl ?_
        exact ⟨by first | rfl | (simp [errW_none, errW_some] <;> rfl) | (simp only [← hji3, ← hji62, ← hji64, ← hji65, ← hji67, ← hji69, ← hji71]; first | rfl | (simp [errW_none, errW_some] <;> rfl)) | (simp [*, errW_none, errW_some] <;> rfl), by repeat (first | (with_reducible first | exact HB.out | apply zaq | apply zbq | apply zcq | refine zdq ?_ GE106.out | refine zdq ?_ GE107.out) | exact HB.out)⟩
       ·
        rw [if_neg c66] at H
        exact absurd H (by simp)
      ·
       rw [if_neg c61] at H
       exact absurd H (by simp)
     ·
      replace c60 := Bool.eq_false_iff.mpr c60
      subst c60
      have H1 : (if 0 ≤ x1_1 then (if 0 ≤ (wrap64 (64 - x1_1)) then (some (shr .u64 x107000_1 x1_1, Go.bits .or .u64 (shr .u64 x107001_1 x1_1) (shl .u64 x107000_1 (wrap64 (64 - x1_1))), Go.bits .or .u64 (shr .u64 x107002_1 x1_1) (shl .u64 x107001_1 (wrap64 (64 - x1_1))), decide ((Go.bits .and .u64 x107002_1 (IntKind.u64.wrap ((shl .u64 1 x1_1) - 1))) > 0))) else (none)) else (none)) = some (r1, r2, r3, r4) := by rw [if_neg (show ¬ (false = true) by decide)] at H; exact H
      clear H
      have H := H1
      clear H1
      by_cases c79 : 0 ≤ x1_1
      ·
       rw [if_pos c79] at H
       have c79b0 := eq_true c79
       have c79b1 : decide (0 ≤ x1_1) = true := decide_eq_true c79
       clear c79
       obtain ⟨ji80, hji80⟩ : ∃ j_ : Int, (shl .u64 1 x1_1) = j_ := ⟨_, rfl⟩
       replace H : (if 0 ≤ (wrap64 (64 - x1_1)) then (some (shr .u64 x107000_1 x1_1, Go.bits .or .u64 (shr .u64 x107001_1 x1_1) (shl .u64 x107000_1 (wrap64 (64 - x1_1))), Go.bits .or .u64 (shr .u64 x107002_1 x1_1) (shl .u64 x107001_1 (wrap64 (64 - x1_1))), decide ((Go.bits .and .u64 x107002_1 (IntKind.u64.wrap ((ji80) - 1))) > 0))) else (none)) = some (r1, r2, r3, r4) := by first | (rw [hji80] at H; exact H) | (simp only [hji80] at H ⊢; exact H)
       have hji80_ : (IntKind.u64.wrap (1 * 2 ^ min x1_1.toNat 64)) = ji80 := hji80
       have hji80z : x1_1 ≤ 64 → (IntKind.u64.wrap (1 * 2 ^ x1_1.toNat)) = ji80 := shl_small hji80
       have hji80u : (IntKind.u64.wrap (2 ^ min x1_1.toNat 64)) = ji80 := by have h_ := hji80_; rw [Int.one_mul] at h_; exact h_
       have hji80v : x1_1 ≤ 64 → (IntKind.u64.wrap (2 ^ x1_1.toNat)) = ji80 := fun hle_ => by have h_ := hji80z hle_; rw [Int.one_mul] at h_; exact h_
       have c81b0 := eq_true (of_decide_eq_true (by first | (with_reducible assumption) | assumption) : 0 ≤ x1_1)
       obtain ⟨ji82, hji82⟩ : ∃ j_ : Int, (shr .u64 x107000_1 x1_1) = j_ := ⟨_, rfl⟩
       replace H : (if 0 ≤ (wrap64 (64 - x1_1)) then (some (ji82, Go.bits .or .u64 (shr .u64 x107001_1 x1_1) (shl .u64 x107000_1 (wrap64 (64 - x1_1))), Go.bits .or .u64 (shr .u64 x107002_1 x1_1) (shl .u64 x107001_1 (wrap64 (64 - x1_1))), decide ((Go.bits .and .u64 x107002_1 (IntKind.u64.wrap ((ji80) - 1))) > 0))) else (none)) = some (r1, r2, r3, r4) := by first | (rw [hji82] at H; exact H) | (simp only [hji82] at H ⊢; exact H)
       have hji82_ : (x107000_1 / 2 ^ min x1_1.toNat 64) = ji82 := hji82
       have hji82z : x1_1 ≤ 64 → (x107000_1 / 2 ^ x1_1.toNat) = ji82 := shr_small hji82
       have c83b0 := eq_true (of_decide_eq_true (by first | (with_reducible assumption) | assumption) : 0 ≤ x1_1)
       obtain ⟨ji84, hji84⟩ : ∃ j_ : Int, (shr .u64 x107001_1 x1_1) = j_ := ⟨_, rfl⟩
       replace H : (if 0 ≤ (wrap64 (64 - x1_1)) then (some (ji82, Go.bits .or .u64 (ji84) (shl .u64 x107000_1 (wrap64 (64 - x1_1))), Go.bits .or .u64 (shr .u64 x107002_1 x1_1) (shl .u64 x107001_1 (wrap64 (64 - x1_1))), decide ((Go.bits .and .u64 x107002_1 (IntKind.u64.wrap ((ji80) - 1))) > 0))) else (none)) = some (r1, r2, r3, r4) := by first | (rw [hji84] at H; exact H) | (simp only [hji84] at H ⊢; exact H)
       have hji84_ : (x107001_1 / 2 ^ min x1_1.toNat 64) = ji84 := hji84
       have hji84z : x1_1 ≤ 64 → (x107001_1 / 2 ^ x1_1.toNat) = ji84 := shr_small hji84
       obtain ⟨ji85, hji85⟩ : ∃ j_ : Int, (wrap64 (64 - x1_1)) = j_ := ⟨_, rfl⟩
       replace H : (if 0 ≤ (ji85) then (some (ji82, Go.bits .or .u64 (ji84) (shl .u64 x107000_1 (ji85)), Go.bits .or .u64 (shr .u64 x107002_1 x1_1) (shl .u64 x107001_1 (ji85)), decide ((Go.bits .and .u64 x107002_1 (IntKind.u64.wrap ((ji80) - 1))) > 0))) else (none)) = some (r1, r2, r3, r4) := by first | (rw [hji85] at H; exact H) | (simp only [hji85] at H ⊢; exact H)
       have hji85w : (IntKind.i64.wrap (64 - x1_1)) = ji85 := (i64_w _).trans hji85
       by_cases c86 : 0 ≤ (ji85)
       ·
        rw [if_pos c86] at H
        have c86b0 := eq_true c86
        have c86b1 : decide (0 ≤ (ji85)) = true := decide_eq_true c86
        clear c86
        obtain ⟨ji87, hji87⟩ : ∃ j_ : Int, (shl .u64 x107000_1 (ji85)) = j_ := ⟨_, rfl⟩
        replace H : (some (ji82, Go.bits .or .u64 (ji84) (ji87), Go.bits .or .u64 (shr .u64 x107002_1 x1_1) (shl .u64 x107001_1 (ji85)), decide ((Go.bits .and .u64 x107002_1 (IntKind.u64.wrap ((ji80) - 1))) > 0))) = some (r1, r2, r3, r4) := by first | (rw [hji87] at H; exact H) | (simp only [hji87] at H ⊢; exact H)
        have hji87_ : (IntKind.u64.wrap (x107000_1 * 2 ^ min (ji85).toNat 64)) = ji87 := hji87
        have hji87z : (ji85) ≤ 64 → (IntKind.u64.wrap (x107000_1 * 2 ^ (ji85).toNat)) = ji87 := shl_small hji87
        have c88b0 := eq_true (of_decide_eq_true (by first | (with_reducible assumption) | assumption) : 0 ≤ x1_1)
        obtain ⟨ji89, hji89⟩ : ∃ j_ : Int, (shr .u64 x107002_1 x1_1) = j_ := ⟨_, rfl⟩
        replace H : (some (ji82, Go.bits .or .u64 (ji84) (ji87), Go.bits .or .u64 (ji89) (shl .u64 x107001_1 (ji85)), decide ((Go.bits .and .u64 x107002_1 (IntKind.u64.wrap ((ji80) - 1))) > 0))) = some (r1, r2, r3, r4) := by first | (rw [hji89] at H; exact H) | (simp only [hji89] at H ⊢; exact H)
        have hji89_ : (x107002_1 / 2 ^ min x1_1.toNat 64) = ji89 := hji89
        have hji89z : x1_1 ≤ 64 → (x107002_1 / 2 ^ x1_1.toNat) = ji89 := shr_small hji89
        have c90b0 := eq_true (of_decide_eq_true (by first | (with_reducible assumption) | assumption) : 0 ≤ (ji85))
        obtain ⟨ji91, hji91⟩ : ∃ j_ : Int, (shl .u64 x107001_1 (ji85)) = j_ := ⟨_, rfl⟩
        replace H : (some (ji82, Go.bits .or .u64 (ji84) (ji87), Go.bits .or .u64 (ji89) (ji91), decide ((Go.bits .and .u64 x107002_1 (IntKind.u64.wrap ((ji80) - 1))) > 0))) = some (r1, r2, r3, r4) := by first | (rw [hji91] at H; exact H) | (simp only [hji91] at H ⊢; exact H)
        have hji91_ : (IntKind.u64.wrap (x107001_1 * 2 ^ min (ji85).toNat 64)) = ji91 := hji91
        have hji91z : (ji85) ≤ 64 → (IntKind.u64.wrap (x107001_1 * 2 ^ (ji85).toNat)) = ji91 := shl_small hji91
        simp only [Option.some.injEq, Prod.mk.injEq] at H
        obtain ⟨rfl, rfl, rfl, rfl⟩ := H
        have hnb92 := NB106_107.out
        have hnc92 := NB107_106.out
        have hcz93_0 : wr.cell? ⟨gb106, 0, none⟩ = some (.int .u64 x107000_1) := (zmq BK106.out 0).trans rfl
        have hcz93_1 : wr.cell? ⟨gb106, 1, none⟩ = some (.int .u64 x107001_1) := (zmq BK106.out 1).trans rfl
        have hcz93_2 : wr.cell? ⟨gb106, 2, none⟩ = some (.int .u64 x107002_1) := (zmq BK106.out 2).trans rfl
        have hfz93_0 := znq BK106.out 0
        have hfz93_1 := znq BK106.out 1
        have hfz93_2 := znq BK106.out 2
        try go_wp2
        have n0_ := zA (zhq BK106.out)
        have n1_ := zA (zhq BK107.out)
        have n2_ := zA (zcq HB.out)
        clear BK106
        clear BK107
        clear HB
        have BK106 := n0_
        have BK107 := n1_
        have HB := n2_
        clear n0_ n1_ n2_
        refine start_ (n := 11) (S := fun w' => w'.cell? ⟨gb106, 0, none⟩ = some (.int .u64 x107000_1) ∧ w'.cell? ⟨gb106, 1, none⟩ = some (.int .u64 x107001_1) ∧ w'.cell? ⟨gb106, 2, none⟩ = some (.int .u64 x107002_1)) (ds := []) #[false, false, false, false, false, false, false, false, false, false, false] (by kernel_rfl) rfl rfl ⟨(zmq BK106.out 0).trans rfl, (zmq BK106.out 1).trans rfl, (zmq BK106.out 2).trans rfl⟩ (fun hHeld => ?_); refine with_tabW wide_Drop.tab9 wide_Drop.bits9 (fun HT_ HW_ => ?_)
        generalize wr.drew = w94 at BK106 BK107 HB hHeld ⊢
        refine pure_ (i := 0) (N := some 34) (v := ?_) (a' := ?_) #[true, false, false, false, false, false, false, false, false, false, false] rfl rfl (any_of HT_.out (by kernel_rfl)) (fun _ _ _ h => h) (Or.inl ⟨by rfl, ?_⟩) ?_ ?_
        rotate_left
        ·
         intro w'
         go_simp
         with_reducible rfl
        rotate_left
        ·
         simp only [Act.put, List.setIfInBounds_toArray, List.set_cons_zero, List.set_cons_succ, i64_w, i32_w]
         rfl
        refine pure_ (i := 1) (N := some 35) (v := ?_) (a' := ?_) #[true, true, false, false, false, false, false, false, false, false, false] rfl rfl (any_of HT_.out (by kernel_rfl)) (fun _ _ _ h => h) (Or.inl ⟨by rfl, ?_⟩) ?_ ?_
        rotate_left
        ·
         intro w'
         go_simp
         with_reducible rfl
        rotate_left
        ·
         simp only [Act.put, List.setIfInBounds_toArray, List.set_cons_zero, List.set_cons_succ, i64_w, i32_w]
         rfl
        refine pure_ (i := 2) (N := some 36) (v := ?_) (a' := ?_) #[true, true, true, false, false, false, false, false, false, false, false] rfl rfl (any_of HT_.out (by kernel_rfl)) (fun _ _ _ h => h) (Or.inl ⟨by rfl, ?_⟩) ?_ ?_
        rotate_left
        ·
         intro w'
         go_simp
         with_reducible rfl
        rotate_left
        ·
         simp only [Act.put, List.setIfInBounds_toArray, List.set_cons_zero, List.set_cons_succ, i64_w, i32_w]
         rfl
        refine pure_ (i := 4) (N := some 38) (v := ?_) (a' := ?_) #[true, true, true, false, true, false, false, false, false, false, false] rfl rfl (any_of HT_.out (by kernel_rfl)) (fun _ _ _ h => h) (Or.inl ⟨by rfl, ?_⟩) ?_ ?_
        rotate_left
        ·
         intro w'
         go_simp
         with_reducible rfl
        rotate_left
        ·
         simp only [Act.put, List.setIfInBounds_toArray, List.set_cons_zero, List.set_cons_succ, i64_w, i32_w]
         rfl
        refine pure_ (i := 5) (N := some 39) (v := ?_) (a' := ?_) #[true, true, true, false, true, true, false, false, false, false, false] rfl rfl (any_of HT_.out (by kernel_rfl)) (fun _ _ _ h => h) (Or.inl ⟨by rfl, ?_⟩) ?_ ?_
        rotate_left
        ·
         intro w'
         go_simp
         with_reducible rfl
        rotate_left
        ·
         simp only [Act.put, List.setIfInBounds_toArray, List.set_cons_zero, List.set_cons_succ, i64_w, i32_w]
         rfl
        refine pure_ (i := 6) (N := some 40) (v := ?_) (a' := ?_) #[true, true, true, false, true, true, true, false, false, false, false] rfl rfl (any_of HT_.out (by kernel_rfl)) (fun _ _ _ h => h) (Or.inl ⟨by rfl, ?_⟩) ?_ ?_
        rotate_left
        ·
         intro w'
         go_simp
         with_reducible rfl
        rotate_left
        ·
         simp only [Act.put, List.setIfInBounds_toArray, List.set_cons_zero, List.set_cons_succ, i64_w, i32_w]
         rfl
        refine take_ (i := 3) (N := some 37) (v := ?_) (a' := ?_) #[true, true, true, true, true, true, true, false, false, false, false] rfl rfl (take_ofW HT_.out HW_.out (by kernel_rfl)) (fun _ _ _ h => h) (Or.inl ⟨by rfl, ?_⟩) hHeld ?_ ?_
        rotate_left
        ·
         rintro w' ⟨s0, s1, s2⟩
         go_simp
         with_reducible rfl
        rotate_left
        ·
         simp only [Act.put, List.setIfInBounds_toArray, List.set_cons_zero, List.set_cons_succ, i64_w, i32_w]
         rfl
        refine pure_ (i := 7) (N := some 41) (v := ?_) (a' := ?_) #[true, true, true, true, true, true, true, true, false, false, false] rfl rfl (any_of HT_.out (by kernel_rfl)) (fun _ _ _ h => h) (Or.inl ⟨by rfl, ?_⟩) ?_ ?_
        rotate_left
        ·
         intro w'
         go_simp
         with_reducible rfl
        rotate_left
        ·
         simp only [Act.put, List.setIfInBounds_toArray, List.set_cons_zero, List.set_cons_succ, i64_w, i32_w]
         rfl
        refine pure_ (i := 8) (N := some 42) (v := ?_) (a' := ?_) #[true, true, true, true, true, true, true, true, true, false, false] rfl rfl (any_of HT_.out (by kernel_rfl)) (fun _ _ _ h => h) (Or.inl ⟨by rfl, ?_⟩) ?_ ?_
        rotate_left
        ·
         intro w'
         go_simp
         with_reducible rfl
        rotate_left
        ·
         simp only [Act.put, List.setIfInBounds_toArray, List.set_cons_zero, List.set_cons_succ, i64_w, i32_w]
         rfl
        refine pure_ (i := 9) (N := some 43) (v := ?_) (a' := ?_) #[true, true, true, true, true, true, true, true, true, true, false] rfl rfl (any_of HT_.out (by kernel_rfl)) (fun _ _ _ h => h) (Or.inl ⟨by rfl, ?_⟩) ?_ ?_
        rotate_left
        ·
         intro w'
         go_simp
         with_reducible rfl
        rotate_left
        ·
         simp only [Act.put, List.setIfInBounds_toArray, List.set_cons_zero, List.set_cons_succ, i64_w, i32_w]
         rfl
        refine pure_ (i := 10) (N := some 6) (v := ?_) (a' := ?_) #[true, true, true, true, true, true, true, true, true, true, true] rfl rfl (any_of HT_.out (by kernel_rfl)) (fun _ _ _ h => h) (Or.inl ⟨by rfl, ?_⟩) ?_ ?_
        rotate_left
        ·
         intro w'
         go_simp
         with_reducible rfl
        rotate_left
        ·
         simp only [Act.put, List.setIfInBounds_toArray, List.set_cons_zero, List.set_cons_succ, i64_w, i32_w]
         rfl
        refine done_ (done_of HT_.out (by kernel_rfl)) ?_
        try go_wp2
        have n0_ := zA (zhq BK106.out)
        have n1_ := zA (zhq BK107.out)
        have n2_ := zA (zcq HB.out)
        clear BK106
        clear BK107
        clear HB
        have BK106 := n0_
        have BK107 := n1_
        have HB := n2_
        clear n0_ n1_ n2_
        refine start_ (n := 28) (S := fun w' => w'.cell? ⟨gb106, 0, none⟩ = some (.int .u64 x107000_1) ∧ w'.cell? ⟨gb106, 1, none⟩ = some (.int .u64 x107001_1) ∧ w'.cell? ⟨gb106, 2, none⟩ = some (.int .u64 x107002_1)) (ds := []) #[false, false, false, false, false, false, false, false, false, false, false, false, false, false, false, false, false, false, false, false, false, false, false, false, false, false, false, false] (by kernel_rfl) rfl rfl ⟨(zmq BK106.out 0).trans rfl, (zmq BK106.out 1).trans rfl, (zmq BK106.out 2).trans rfl⟩ (fun hHeld => ?_); refine with_tabW wide_Drop.tab10 wide_Drop.bits10 (fun HT_ HW_ => ?_)
        generalize w94.drew = w95 at BK106 BK107 HB hHeld ⊢
        refine pure_ (i := 0) (N := some 44) (v := ?_) (a' := ?_) #[true, false, false, false, false, false, false, false, false, false, false, false, false, false, false, false, false, false, false, false, false, false, false, false, false, false, false, false] rfl rfl (any_of HT_.out (by kernel_rfl)) (fun _ _ _ h => h) (Or.inl ⟨by rfl, ?_⟩) ?_ ?_
        rotate_left
        ·
         intro w'
         go_simp
         with_reducible rfl
        rotate_left
        ·
         simp only [Act.put, List.setIfInBounds_toArray, List.set_cons_zero, List.set_cons_succ, i64_w, i32_w]
         rfl
        refine pure_ (i := 2) (N := some 46) (v := ?_) (a' := ?_) #[true, false, true, false, false, false, false, false, false, false, false, false, false, false, false, false, false, false, false, false, false, false, false, false, false, false, false, false] rfl rfl (any_of HT_.out (by kernel_rfl)) (fun _ _ _ h => h) (Or.inl ⟨by rfl, ?_⟩) ?_ ?_
        rotate_left
        ·
         intro w'
         go_simp
         with_reducible rfl
        rotate_left
        ·
         simp only [Act.put, List.setIfInBounds_toArray, List.set_cons_zero, List.set_cons_succ, i64_w, i32_w]
         rfl
        refine pure_ (i := 4) (N := some 48) (v := ?_) (a' := ?_) #[true, false, true, false, true, false, false, false, false, false, false, false, false, false, false, false, false, false, false, false, false, false, false, false, false, false, false, false] rfl rfl (any_of HT_.out (by kernel_rfl)) (fun _ _ _ h => h) (Or.inl ⟨by rfl, ?_⟩) ?_ ?_
        rotate_left
        ·
         intro w'
         go_simp
         with_reducible rfl
        rotate_left
        ·
         simp only [Act.put, List.setIfInBounds_toArray, List.set_cons_zero, List.set_cons_succ, i64_w, i32_w]
         rfl
        refine pure_ (i := 6) (N := some 50) (v := ?_) (a' := ?_) #[true, false, true, false, true, false, true, false, false, false, false, false, false, false, false, false, false, false, false, false, false, false, false, false, false, false, false, false] rfl rfl (any_of HT_.out (by kernel_rfl)) (fun _ _ _ h => h) (Or.inl ⟨by rfl, ?_⟩) ?_ ?_
        rotate_left
        ·
         intro w'
         go_simp
         with_reducible rfl
        rotate_left
        ·
         simp only [Act.put, List.setIfInBounds_toArray, List.set_cons_zero, List.set_cons_succ, i64_w, i32_w]
         rfl
        refine pure_ (i := 8) (N := some 52) (v := ?_) (a' := ?_) #[true, false, true, false, true, false, true, false, true, false, false, false, false, false, false, false, false, false, false, false, false, false, false, false, false, false, false, false] rfl rfl (any_of HT_.out (by kernel_rfl)) (fun _ _ _ h => h) (Or.inl ⟨by rfl, ?_⟩) ?_ ?_
        rotate_left
        ·
         intro w'
         go_simp
         with_reducible rfl
        rotate_left
        ·
         simp only [Act.put, List.setIfInBounds_toArray, List.set_cons_zero, List.set_cons_succ, i64_w, i32_w]
         rfl
        refine pure_ (i := 10) (N := some 54) (v := ?_) (a' := ?_) #[true, false, true, false, true, false, true, false, true, false, true, false, false, false, false, false, false, false, false, false, false, false, false, false, false, false, false, false] rfl rfl (any_of HT_.out (by kernel_rfl)) (fun _ _ _ h => h) (Or.inl ⟨by rfl, ?_⟩) ?_ ?_
        rotate_left
        ·
         intro w'
         go_simp
         with_reducible rfl
        rotate_left
        ·
         simp only [Act.put, List.setIfInBounds_toArray, List.set_cons_zero, List.set_cons_succ, i64_w, i32_w]
         rfl
        refine pure_ (i := 11) (N := some 55) (v := ?_) (a' := ?_) #[true, false, true, false, true, false, true, false, true, false, true, true, false, false, false, false, false, false, false, false, false, false, false, false, false, false, false, false] rfl rfl (any_of HT_.out (by kernel_rfl)) (fun _ _ _ h => h) (Or.inl ⟨by rfl, ?_⟩) ?_ ?_
        rotate_left
        ·
         intro w'
         go_simp
         with_reducible rfl
        rotate_left
        ·
         simp only [Act.put, List.setIfInBounds_toArray, List.set_cons_zero, List.set_cons_succ, i64_w, i32_w]
         rfl
        refine pure_ (i := 14) (N := some 58) (v := ?_) (a' := ?_) #[true, false, true, false, true, false, true, false, true, false, true, true, false, false, true, false, false, false, false, false, false, false, false, false, false, false, false, false] rfl rfl (any_of HT_.out (by kernel_rfl)) (fun _ _ _ h => h) (Or.inl ⟨by rfl, ?_⟩) ?_ ?_
        rotate_left
        ·
         intro w'
         go_simp
         with_reducible rfl
        rotate_left
        ·
         simp only [Act.put, List.setIfInBounds_toArray, List.set_cons_zero, List.set_cons_succ, i64_w, i32_w]
         rfl
        refine pure_ (i := 16) (N := some 60) (v := ?_) (a' := ?_) #[true, false, true, false, true, false, true, false, true, false, true, true, false, false, true, false, true, false, false, false, false, false, false, false, false, false, false, false] rfl rfl (any_of HT_.out (by kernel_rfl)) (fun _ _ _ h => h) (Or.inl ⟨by rfl, ?_⟩) ?_ ?_
        rotate_left
        ·
         intro w'
         go_simp
         with_reducible rfl
        rotate_left
        ·
         simp only [Act.put, List.setIfInBounds_toArray, List.set_cons_zero, List.set_cons_succ, i64_w, i32_w]
         rfl
        refine pure_ (i := 18) (N := some 62) (v := ?_) (a' := ?_) #[true, false, true, false, true, false, true, false, true, false, true, true, false, false, true, false, true, false, true, false, false, false, false, false, false, false, false, false] rfl rfl (any_of HT_.out (by kernel_rfl)) (fun _ _ _ h => h) (Or.inl ⟨by rfl, ?_⟩) ?_ ?_
        rotate_left
        ·
         intro w'
         go_simp
         with_reducible rfl
        rotate_left
        ·
         simp only [Act.put, List.setIfInBounds_toArray, List.set_cons_zero, List.set_cons_succ, i64_w, i32_w]
         rfl
        refine pure_ (i := 20) (N := some 64) (v := ?_) (a' := ?_) #[true, false, true, false, true, false, true, false, true, false, true, true, false, false, true, false, true, false, true, false, true, false, false, false, false, false, false, false] rfl rfl (any_of HT_.out (by kernel_rfl)) (fun _ _ _ h => h) (Or.inl ⟨by rfl, ?_⟩) ?_ ?_
        rotate_left
        ·
         intro w'
         go_simp
         with_reducible rfl
        rotate_left
        ·
         simp only [Act.put, List.setIfInBounds_toArray, List.set_cons_zero, List.set_cons_succ, i64_w, i32_w]
         rfl
        refine pure_ (i := 21) (N := some 65) (v := ?_) (a' := ?_) #[true, false, true, false, true, false, true, false, true, false, true, true, false, false, true, false, true, false, true, false, true, true, false, false, false, false, false, false] rfl rfl (any_of HT_.out (by kernel_rfl)) (fun _ _ _ h => h) (Or.inl ⟨by rfl, ?_⟩) ?_ ?_
        rotate_left
        ·
         intro w'
         go_simp
         with_reducible rfl
        rotate_left
        ·
         simp only [Act.put, List.setIfInBounds_toArray, List.set_cons_zero, List.set_cons_succ, i64_w, i32_w]
         rfl
        refine pure_ (i := 25) (N := some 69) (v := ?_) (a' := ?_) #[true, false, true, false, true, false, true, false, true, false, true, true, false, false, true, false, true, false, true, false, true, true, false, false, false, true, false, false] rfl rfl (any_of HT_.out (by kernel_rfl)) (fun _ _ _ h => h) (Or.inl ⟨by rfl, ?_⟩) ?_ ?_
        rotate_left
        ·
         intro w'
         go_simp
         with_reducible rfl
        rotate_left
        ·
         simp only [Act.put, List.setIfInBounds_toArray, List.set_cons_zero, List.set_cons_succ, i64_w, i32_w]
         rfl
        refine take_ (i := 1) (N := some 45) (v := ?_) (a' := ?_) #[true, true, true, false, true, false, true, false, true, false, true, true, false, false, true, false, true, false, true, false, true, true, false, false, false, true, false, false] rfl rfl (take_ofW HT_.out HW_.out (by kernel_rfl)) (fun _ _ _ h => h) (Or.inl ⟨by rfl, ?_⟩) hHeld ?_ ?_
        rotate_left
        ·
         rintro w' ⟨s0, s1, s2⟩
         go_simp
         with_reducible rfl
        rotate_left
        ·
         simp only [Act.put, List.setIfInBounds_toArray, List.set_cons_zero, List.set_cons_succ, i64_w, i32_w]
         rfl
        refine pure_ (i := 3) (N := some 47) (v := ?_) (a' := ?_) #[true, true, true, true, true, false, true, false, true, false, true, true, false, false, true, false, true, false, true, false, true, true, false, false, false, true, false, false] rfl rfl (any_of HT_.out (by kernel_rfl)) (fun _ _ _ h => h) (Or.inl ⟨by rfl, ?_⟩) ?_ ?_
        rotate_left
        ·
         intro w'
         go_simp
         with_reducible rfl
        rotate_left
        ·
         simp only [Act.put, List.setIfInBounds_toArray, List.set_cons_zero, List.set_cons_succ, i64_w, i32_w]
         rfl
        refine take_ (i := 5) (N := some 49) (v := ?_) (a' := ?_) #[true, true, true, true, true, true, true, false, true, false, true, true, false, false, true, false, true, false, true, false, true, true, false, false, false, true, false, false] rfl rfl (take_ofW HT_.out HW_.out (by kernel_rfl)) (fun _ _ _ h => h) (Or.inl ⟨by rfl, ?_⟩) hHeld ?_ ?_
        rotate_left
        ·
         rintro w' ⟨s0, s1, s2⟩
         go_simp
         with_reducible rfl
        rotate_left
        ·
         simp only [Act.put, List.setIfInBounds_toArray, List.set_cons_zero, List.set_cons_succ, i64_w, i32_w]
         rfl
        refine pure_ (i := 7) (N := some 51) (v := ?_) (a' := ?_) #[true, true, true, true, true, true, true, true, true, false, true, true, false, false, true, false, true, false, true, false, true, true, false, false, false, true, false, false] rfl rfl (any_of HT_.out (by kernel_rfl)) (fun _ _ _ h => h) (Or.inl ⟨by rfl, ?_⟩) ?_ ?_
        rotate_left
        ·
         intro w'
         go_simp
         with_reducible rfl
        rotate_left
        ·
         simp only [Act.put, List.setIfInBounds_toArray, List.set_cons_zero, List.set_cons_succ, i64_w, i32_w]
         rfl
        refine take_ (i := 9) (N := some 53) (v := ?_) (a' := ?_) #[true, true, true, true, true, true, true, true, true, true, true, true, false, false, true, false, true, false, true, false, true, true, false, false, false, true, false, false] rfl rfl (take_ofW HT_.out HW_.out (by kernel_rfl)) (fun _ _ _ h => h) (Or.inl ⟨by rfl, ?_⟩) hHeld ?_ ?_
        rotate_left
        ·
         rintro w' ⟨s0, s1, s2⟩
         go_simp
         with_reducible rfl
        rotate_left
        ·
         simp only [Act.put, List.setIfInBounds_toArray, List.set_cons_zero, List.set_cons_succ, i64_w, i32_w]
         rfl
        refine pure_ (i := 12) (N := some 56) (v := ?_) (a' := ?_) #[true, true, true, true, true, true, true, true, true, true, true, true, true, false, true, false, true, false, true, false, true, true, false, false, false, true, false, false] rfl rfl (any_of HT_.out (by kernel_rfl)) (fun _ _ _ h => h) (Or.inl ⟨by rfl, ?_⟩) ?_ ?_
        rotate_left
        ·
         intro w'
         go_simp
         with_reducible rfl
        rotate_left
        ·
         simp only [Act.put, List.setIfInBounds_toArray, List.set_cons_zero, List.set_cons_succ, i64_w, i32_w]
         rfl
        refine pure_ (i := 13) (N := some 57) (v := ?_) (a' := ?_) #[true, true, true, true, true, true, true, true, true, true, true, true, true, true, true, false, true, false, true, false, true, true, false, false, false, true, false, false] rfl rfl (any_of HT_.out (by kernel_rfl)) (fun _ _ _ h => h) (Or.inl ⟨by rfl, ?_⟩) ?_ ?_
        rotate_left
        ·
         intro w'
         go_simp
         with_reducible rfl
        rotate_left
        ·
         simp only [Act.put, List.setIfInBounds_toArray, List.set_cons_zero, List.set_cons_succ, i64_w, i32_w]
         rfl
        refine take_ (i := 15) (N := some 59) (v := ?_) (a' := ?_) #[true, true, true, true, true, true, true, true, true, true, true, true, true, true, true, true, true, false, true, false, true, true, false, false, false, true, false, false] rfl rfl (take_ofW HT_.out HW_.out (by kernel_rfl)) (fun _ _ _ h => h) (Or.inl ⟨by rfl, ?_⟩) hHeld ?_ ?_
        rotate_left
        ·
         rintro w' ⟨s0, s1, s2⟩
         go_simp
         with_reducible rfl
        rotate_left
        ·
         simp only [Act.put, List.setIfInBounds_toArray, List.set_cons_zero, List.set_cons_succ, i64_w, i32_w]
         rfl
        refine pure_ (i := 17) (N := some 61) (v := ?_) (a' := ?_) #[true, true, true, true, true, true, true, true, true, true, true, true, true, true, true, true, true, true, true, false, true, true, false, false, false, true, false, false] rfl rfl (any_of HT_.out (by kernel_rfl)) (fun _ _ _ h => h) (Or.inl ⟨by rfl, ?_⟩) ?_ ?_
        rotate_left
        ·
         intro w'
         go_simp
         with_reducible rfl
        rotate_left
        ·
         simp only [Act.put, List.setIfInBounds_toArray, List.set_cons_zero, List.set_cons_succ, i64_w, i32_w]
         rfl
        refine take_ (i := 19) (N := some 63) (v := ?_) (a' := ?_) #[true, true, true, true, true, true, true, true, true, true, true, true, true, true, true, true, true, true, true, true, true, true, false, false, false, true, false, false] rfl rfl (take_ofW HT_.out HW_.out (by kernel_rfl)) (fun _ _ _ h => h) (Or.inl ⟨by rfl, ?_⟩) hHeld ?_ ?_
        rotate_left
        ·
         rintro w' ⟨s0, s1, s2⟩
         go_simp
         with_reducible rfl
        rotate_left
        ·
         simp only [Act.put, List.setIfInBounds_toArray, List.set_cons_zero, List.set_cons_succ, i64_w, i32_w]
         rfl
        refine pure_ (i := 22) (N := some 66) (v := ?_) (a' := ?_) #[true, true, true, true, true, true, true, true, true, true, true, true, true, true, true, true, true, true, true, true, true, true, true, false, false, true, false, false] rfl rfl (any_of HT_.out (by kernel_rfl)) (fun _ _ _ h => h) (Or.inl ⟨by rfl, ?_⟩) ?_ ?_
        rotate_left
        ·
         intro w'
         go_simp
         with_reducible rfl
        rotate_left
        ·
         simp only [Act.put, List.setIfInBounds_toArray, List.set_cons_zero, List.set_cons_succ, i64_w, i32_w]
         rfl
        refine pure_ (i := 23) (N := some 67) (v := ?_) (a' := ?_) #[true, true, true, true, true, true, true, true, true, true, true, true, true, true, true, true, true, true, true, true, true, true, true, true, false, true, false, false] rfl rfl (any_of HT_.out (by kernel_rfl)) (fun _ _ _ h => h) (Or.inl ⟨by rfl, ?_⟩) ?_ ?_
        rotate_left
        ·
         intro w'
         go_simp
         with_reducible rfl
        rotate_left
        ·
         simp only [Act.put, List.setIfInBounds_toArray, List.set_cons_zero, List.set_cons_succ, i64_w, i32_w]
         rfl
        refine pure_ (i := 24) (N := some 68) (v := ?_) (a' := ?_) #[true, true, true, true, true, true, true, true, true, true, true, true, true, true, true, true, true, true, true, true, true, true, true, true, true, true, false, false] rfl rfl (any_of HT_.out (by kernel_rfl)) (fun _ _ _ h => h) (Or.inl ⟨by rfl, ?_⟩) ?_ ?_
        rotate_left
        ·
         intro w'
         go_simp
         with_reducible rfl
        rotate_left
        ·
         simp only [Act.put, List.setIfInBounds_toArray, List.set_cons_zero, List.set_cons_succ, i64_w, i32_w]
         rfl
        refine one_ (i := 26) (N := none) #[true, true, true, true, true, true, true, true, true, true, true, true, true, true, true, true, true, true, true, true, true, true, true, true, true, true, true, false] rfl rfl (one_of HT_.out (by kernel_rfl)) (by decide) (fun K hK => ?_)
        have hs96 : w95.cell? ⟨gb107, 0, none⟩ = some (.int .u64 0) := (zmq BK107.out 0).trans rfl
        have hfs96 := znq BK107.out 0
        have hns96_0 := NB106_107.out
        have hms96_0 := NB107_106.out
        have hs97 : w95.cell? ⟨gb107, 1, none⟩ = some (.int .u64 0) := (zmq BK107.out 1).trans rfl
        have hfs97 := znq BK107.out 1
        have hns97_0 := NB106_107.out
        have hms97_0 := NB107_106.out
        have hs98 : w95.cell? ⟨gb107, 2, none⟩ = some (.int .u64 0) := (zmq BK107.out 2).trans rfl
        have hfs98 := znq BK107.out 2
        have hns98_0 := NB106_107.out
        have hms98_0 := NB107_106.out
        refine skip_ (w1 := ?_) (by rfl) rfl ?_ ?_
        rotate_left
        ·
         go_simp
         rfl
        refine hK.out _ _ ⟨((cell_far (p := ⟨gb107, _, none⟩) NB106_107.out _).trans (((cell_far (p := ⟨gb107, _, none⟩) NB106_107.out _).trans (((cell_far (p := ⟨gb107, _, none⟩) NB106_107.out _).trans (hHeld.1)))))), ((cell_far (p := ⟨gb107, _, none⟩) NB106_107.out _).trans (((cell_far (p := ⟨gb107, _, none⟩) NB106_107.out _).trans (((cell_far (p := ⟨gb107, _, none⟩) NB106_107.out _).trans (hHeld.2.1)))))), ((cell_far (p := ⟨gb107, _, none⟩) NB106_107.out _).trans (((cell_far (p := ⟨gb107, _, none⟩) NB106_107.out _).trans (((cell_far (p := ⟨gb107, _, none⟩) NB106_107.out _).trans (hHeld.2.2))))))⟩ (fun hHeld => ?_)
        clear hK K
        refine pure_ (i := 27) (N := some 5) (v := ?_) (a' := ?_) #[true, true, true, true, true, true, true, true, true, true, true, true, true, true, true, true, true, true, true, true, true, true, true, true, true, true, true, true] rfl rfl (any_of HT_.out (by kernel_rfl)) (fun _ _ _ h => h) (Or.inl ⟨by rfl, ?_⟩) ?_ ?_
        rotate_left
        ·
         intro w'
         go_simp
         with_reducible rfl
        rotate_left
        ·
         simp only [Act.put, List.setIfInBounds_toArray, List.set_cons_zero, List.set_cons_succ, i64_w, i32_w]
         rfl
        refine done_ (done_of HT_.out (by kernel_rfl)) ?_
        try go_wp2
        refine bodyPost_ret (results_ct rfl _ _ gb107 69 #[.int .u64 ji82, .int .u64 (Go.bits .or .u64 (ji84) (ji87)), .int .u64 (Go.bits .or .u64 (ji89) (ji91))] (0, 0) _ rfl (by (with_reducible repeat (first | refine zgq ?_ _ | refine zhq ?_ | refine ziq ?_ _)); refine zkq (cs := #[.int .u64 ji82, .int .u64 (Go.bits .or .u64 (ji84) (ji87)), .int .u64 0]) ?_ 2 _ rfl; (with_reducible repeat (first | refine zgq ?_ _ | refine zhq ?_ | refine ziq ?_ _)); refine zkq (cs := #[.int .u64 ji82, .int .u64 0, .int .u64 0]) ?_ 1 _ rfl; (with_reducible repeat (first | refine zgq ?_ _ | refine zhq ?_ | refine ziq ?_ _)); refine zkq (cs := #[.int .u64 0, .int .u64 0, .int .u64 0]) ?_ 0 _ rfl; (with_reducible repeat (first | refine zgq ?_ _ | refine zhq ?_ | refine ziq ?_ _)); exact BK107.out) Try.underlying69 rfl (by kernel_rfl)) rfl ?_
        exact ⟨by first | rfl | (simp [errW_none, errW_some] <;> rfl) | (simp only [← hji3, ← hji80, ← hji82, ← hji84, ← hji85, ← hji87, ← hji89, ← hji91]; first | rfl | (simp [errW_none, errW_some] <;> rfl)) | (simp [*, errW_none, errW_some] <;> rfl), by repeat (first | (with_reducible first | exact HB.out | apply zaq | apply zbq | apply zcq | refine zdq ?_ GE106.out | refine zdq ?_ GE107.out) | exact HB.out)⟩
       ·
        rw [if_neg c86] at H
        exact absurd H (by simp)
      ·
       rw [if_neg c79] at H
       exact absurd H (by simp)

end Go.Proofs.Ytbejjlecpcphoaa.P
