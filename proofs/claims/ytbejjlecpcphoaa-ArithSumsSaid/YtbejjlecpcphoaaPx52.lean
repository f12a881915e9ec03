-- Written by a program of this session's (a turned print), not by hand.
import Derived.Test.YtbejjlecpcphoaaPx0
import Derived.Test.YtbejjlecpcphoaaPx33
import Derived.Test.YtbejjlecpcphoaaPx34
namespace Go.Proofs.Ytbejjlecpcphoaa.P
open Go.RowKit Go.Proofs.YtbejjlecpcphoaaW.PrintWords Go.Proofs.YtbejjlecpcphoaaW.PrintLast Go.Proofs.YtbejjlecpcphoaaW.PrintMore
attribute [local go_sem] max2_int min2_int max_two min_two max_three min_three max_four min_four   -- for this text's walks alone
set_option linter.unusedVariables false
set_option linter.unusedSimpArgs false

/-! ### tabardref4_Plus: function 95 -/
def tabardref4_Plus.f (k : Nat) (a0_0 : Bool) (l0_1 : List Int) (a1_0 : Bool) (l1_1 : List Int) : Option (Bool × List Int) := if (a0_0 == a1_0) = true then ((tabardref1_Plus.f k l0_1 l1_1).bind fun t861 => (some (a0_0, t861))) else ((tabardref1_Cmp.f k l0_1 l1_1).bind fun t864 => (if t864 ≥ 0 then ((tabardref1_Less.f k l0_1 l1_1).bind fun t865 => (some (a0_0, t865))) else ((tabardref1_Less.f k l1_1 l0_1).bind fun t868 => (some (a1_0, t868)))))
theorem tabardref4_Plus.mono : ∀ a0 a1 a2 a3 k, LeO (tabardref4_Plus.f k a0 a1 a2 a3) (tabardref4_Plus.f (k + 1) a0 a1 a2 a3) := by
 intro a0 a1 a2 a3 k
 unfold tabardref4_Plus.f
 repeat' first
   | (with_reducible exact tabardref1_Cmp.mono _ _ _)
   | (with_reducible exact tabardref1_Less.mono _ _ _)
   | (with_reducible exact tabardref1_Plus.mono _ _ _)
   | (with_reducible exact LeO.refl _)
   | (with_reducible exact LeO.none _)
   | (with_reducible refine LeO.ite ?_ ?_)
   | (with_reducible refine LeO.bind ?_ (fun _ => ?_))
   | exact tabardref1_Cmp.mono _ _ _
   | exact tabardref1_Less.mono _ _ _
   | exact tabardref1_Plus.mono _ _ _
   | exact LeO.none _
   | refine LeO.ite ?_ ?_
   | refine LeO.bind ?_ (fun _ => ?_)
def tabardref4_Plus.T2 : Bool × List (List Nat × List Nat) := (true, [([], []), ([0], [0]), ([], []), ([2], [2]), ([], []), ([4], [4]), ([3, 5], [3, 5]), ([1, 6], [1, 6]), ([7, 6, 0, 1, 2, 3, 4, 5, 6, 7], [7])])
def tabardref4_Plus.B2 : List Nat := [0, 1, 0, 4, 0, 16, 60, 127, 255]
theorem tabardref4_Plus.tab2 : rtab .any (opsOf Try.f95 2) = tabardref4_Plus.T2 := by kernel_rfl
theorem tabardref4_Plus.bits2 : waitsOk tabardref4_Plus.T2.2 tabardref4_Plus.B2 = true := by kernel_rfl
def tabardref4_Plus.T4 : Bool × List (List Nat × List Nat) := (true, [([], []), ([0], [0]), ([], []), ([2], [2]), ([], []), ([4], [4]), ([3, 5], [3, 5]), ([1, 6], [1, 6]), ([7, 6, 0, 1, 2, 3, 4, 5, 6, 7], [7])])
def tabardref4_Plus.B4 : List Nat := [0, 1, 0, 4, 0, 16, 60, 127, 255]
theorem tabardref4_Plus.tab4 : rtab .any (opsOf Try.f95 4) = tabardref4_Plus.T4 := by kernel_rfl
theorem tabardref4_Plus.bits4 : waitsOk tabardref4_Plus.T4.2 tabardref4_Plus.B4 = true := by kernel_rfl
def tabardref4_Plus.T5 : Bool × List (List Nat × List Nat) := (true, [([], []), ([0], [0]), ([], []), ([2], [2]), ([], []), ([4], [4]), ([3, 5], [3, 5]), ([1, 6], [1, 6]), ([7, 6, 0, 1, 2, 3, 4, 5, 6, 7], [7])])
def tabardref4_Plus.B5 : List Nat := [0, 1, 0, 4, 0, 16, 60, 127, 255]
theorem tabardref4_Plus.tab5 : rtab .any (opsOf Try.f95 5) = tabardref4_Plus.T5 := by kernel_rfl
theorem tabardref4_Plus.bits5 : waitsOk tabardref4_Plus.T5.2 tabardref4_Plus.B5 = true := by kernel_rfl
set_option maxHeartbeats 8000000 in
set_option maxRecDepth 100000 in
theorem tabardref4_Plus.calls (k : Nat) (a0_0 : Bool) (A0_1 : Option Addr) (c0_1 : Nat) (l0_1 : List Int) (a1_0 : Bool) (A1_1 : Option Addr) (c1_1 : Nat) (l1_1 : List Int) (r1 : Bool) (r2 : List Int) (w : World) (hr0_1 : Kd.C (Kd.int .u32) w A0_1 l0_1.length l0_1) (hc0_1 : l0_1.length ≤ c0_1) (hr1_1 : Kd.C (Kd.int .u32) w A1_1 l1_1.length l1_1) (hc1_1 : l1_1.length ≤ c1_1) (h : tabardref4_Plus.f k a0_0 l0_1 a1_0 l1_1 = some (r1, r2)) :
  Calls Try.prog 95 #[.agg #[.bool a0_0, .slice A0_1 l0_1.length c0_1], .agg #[.bool a1_0, .slice A1_1 l1_1.length c1_1]] w fun e w' => ∃ v1_ : Value, e = .returned (.agg #[.bool r1, v1_]) ∧ Kd.R (Kd.int .u32) 40 w' w.heap.size (fun _ => True) v1_ r2 ∧ Below w.heap.size w w' := by
 have hu99 := Try.underlying99
 have HR0_1 := zA hr0_1
 have HC0_1 := zA hc0_1
 clear hr0_1 hc0_1
 have HR1_1 := zA hr1_1
 have HC1_1 := zA hc1_1
 clear hr1_1 hc1_1
 have HB := zA (Below.refl w.heap.size w)
 have H : (if (a0_0 == a1_0) = true then ((tabardref1_Plus.f k l0_1 l1_1).bind fun t861 => (some (a0_0, t861))) else ((tabardref1_Cmp.f k l0_1 l1_1).bind fun t864 => (if t864 ≥ 0 then ((tabardref1_Less.f k l0_1 l1_1).bind fun t865 => (some (a0_0, t865))) else ((tabardref1_Less.f k l1_1 l0_1).bind fun t868 => (some (a1_0, t868)))))) = some (r1, r2) := h
 clear h
 by_cases c3 : (a0_0 == a1_0) = true
 ·
  rw [if_pos c3] at H
  have c3b0 : (a0_0 == a1_0) = true := c3
  (try (have c3b1 : decide (a0_0 = a1_0) = true := by simpa using c3))
  (try (have c3b2 : (a0_0 == a1_0) = true := by simpa using c3))
  clear c3
  replace H := Option.bind_eq_some_iff.mp H
  obtain ⟨t861, A40, H⟩ := H
  replace H : (some (a0_0, t861)) = some (r1, r2) := H
  have A4 := zA A40
  clear A40
  simp only [Option.some.injEq, Prod.mk.injEq] at H
  obtain ⟨rfl, rfl⟩ := H
  go_enter Try.func95, Try.ntmps95
  try go_wp2_with (first | ((with_reducible refine zpq (N := 2) rfl ?_); refine zqq ?hg (N := 2) ?hd (cs := #[.bool a0_0, .slice A0_1 l0_1.length c0_1]) (t := 99) ?hr ?_; (case hd => rfl); (case hg => rfl); (case hr => first | (go_simp; done) | (go_simp; rfl)); intro gb858 hg w5 hbox hb; have n0_ := zA (zeq (by repeat (first | (with_reducible first | exact HB.out | apply zaq | apply zbq | apply zcq) | exact HB.out)) hb); have n1_ := zA (hbox); have n2_ := zA ((by rw [hg]; exact (zfq (by repeat (first | (with_reducible first | exact HB.out | apply zaq | apply zbq | apply zcq) | exact HB.out))) : w.heap.size ≤ gb858)); have n3_ := zA ((by rw [hg]; exact (zfq (by repeat (first | (with_reducible first | exact HB.out | apply zaq | apply zbq | apply zcq) | exact HB.out))) : w.heap.size ≤ gb858)); clear HB; have HB := n0_; have BK858 := n1_; have GW858 := n2_; have GE858 := n3_; clear n0_ n1_ n2_ n3_; clear hb hbox hg) | ((with_reducible refine zpq (N := 3) rfl ?_); refine zqq ?hg (N := 3) ?hd (cs := #[.bool a1_0, .slice A1_1 l1_1.length c1_1]) (t := 99) ?hr ?_; (case hd => rfl); (case hg => rfl); (case hr => first | (go_simp; done) | (go_simp; rfl)); intro gb859 hg w6 hbox hb; have n0_ := zA (zlq (g := gb858) (o := .cells #[.bool a0_0, .slice A0_1 l0_1.length c0_1] 99 (0, 0)) (by (with_reducible repeat (first | refine zgq ?_ _ | refine zhq ?_ | refine ziq ?_ _)); exact BK858.out) hb); have n1_ := zA (zeq (by repeat (first | (with_reducible first | exact HB.out | apply zaq | apply zbq | apply zcq | refine zdq ?_ GE858.out) | exact HB.out)) hb); have n2_ := zA (hbox); have n3_ := zA ((by rw [hg]; exact (zfq (by repeat (first | (with_reducible first | exact HB.out | apply zaq | apply zbq | apply zcq | refine zdq ?_ GE858.out) | exact HB.out))) : w.heap.size ≤ gb859)); have n4_ := zA ((by rw [hg]; exact (zfq (by repeat (first | (with_reducible first | exact HB.out | apply zaq | apply zbq | apply zcq | refine zdq ?_ GE858.out) | exact HB.out))) : w.heap.size ≤ gb859)); have n5_ := zA ((by rw [hg]; exact Nat.ne_of_lt (blk_lt (g := gb858) (o := .cells #[.bool a0_0, .slice A0_1 l0_1.length c0_1] 99 (0, 0)) (by (with_reducible repeat (first | refine zgq ?_ _ | refine zhq ?_ | refine ziq ?_ _)); exact BK858.out)) : gb858 ≠ gb859)); have n6_ := zA ((by rw [hg]; exact Nat.ne_of_gt (blk_lt (g := gb858) (o := .cells #[.bool a0_0, .slice A0_1 l0_1.length c0_1] 99 (0, 0)) (by (with_reducible repeat (first | refine zgq ?_ _ | refine zhq ?_ | refine ziq ?_ _)); exact BK858.out)) : gb859 ≠ gb858)); clear BK858; clear HB; have BK858 := n0_; have HB := n1_; have BK859 := n2_; have GW859 := n3_; have GE859 := n4_; have NB858_859 := n5_; have NB859_858 := n6_; clear n0_ n1_ n2_ n3_ n4_ n5_ n6_; clear hb hbox hg) | ((with_reducible refine zpq (N := 4) rfl ?_); refine zqq ?hg (N := 4) ?hd (cs := #[.bool false, .slice none 0 0]) (t := 99) ?hr ?_; (case hd => rfl); (case hg => rfl); (case hr => first | (go_simp; done) | (go_simp; rfl)); intro gb860 hg w7 hbox hb; have n0_ := zA (zlq (g := gb858) (o := .cells #[.bool a0_0, .slice A0_1 l0_1.length c0_1] 99 (0, 0)) (by (with_reducible repeat (first | refine zgq ?_ _ | refine zhq ?_ | refine ziq ?_ _)); exact BK858.out) hb); have n1_ := zA (zlq (g := gb859) (o := .cells #[.bool a1_0, .slice A1_1 l1_1.length c1_1] 99 (0, 0)) (by (with_reducible repeat (first | refine zgq ?_ _ | refine zhq ?_ | refine ziq ?_ _)); exact BK859.out) hb); have n2_ := zA (zeq (by repeat (first | (with_reducible first | exact HB.out | apply zaq | apply zbq | apply zcq | refine zdq ?_ GE858.out | refine zdq ?_ GE859.out) | exact HB.out)) hb); have n3_ := zA (hbox); have n4_ := zA ((by rw [hg]; exact (zfq (by repeat (first | (with_reducible first | exact HB.out | apply zaq | apply zbq | apply zcq | refine zdq ?_ GE858.out | refine zdq ?_ GE859.out) | exact HB.out))) : w.heap.size ≤ gb860)); have n5_ := zA ((by rw [hg]; exact (zfq (by repeat (first | (with_reducible first | exact HB.out | apply zaq | apply zbq | apply zcq | refine zdq ?_ GE858.out | refine zdq ?_ GE859.out) | exact HB.out))) : w.heap.size ≤ gb860)); have n6_ := zA ((by rw [hg]; exact Nat.ne_of_lt (blk_lt (g := gb858) (o := .cells #[.bool a0_0, .slice A0_1 l0_1.length c0_1] 99 (0, 0)) (by (with_reducible repeat (first | refine zgq ?_ _ | refine zhq ?_ | refine ziq ?_ _)); exact BK858.out)) : gb858 ≠ gb860)); have n7_ := zA ((by rw [hg]; exact Nat.ne_of_gt (blk_lt (g := gb858) (o := .cells #[.bool a0_0, .slice A0_1 l0_1.length c0_1] 99 (0, 0)) (by (with_reducible repeat (first | refine zgq ?_ _ | refine zhq ?_ | refine ziq ?_ _)); exact BK858.out)) : gb860 ≠ gb858)); have n8_ := zA ((by rw [hg]; exact Nat.ne_of_lt (blk_lt (g := gb859) (o := .cells #[.bool a1_0, .slice A1_1 l1_1.length c1_1] 99 (0, 0)) (by (with_reducible repeat (first | refine zgq ?_ _ | refine zhq ?_ | refine ziq ?_ _)); exact BK859.out)) : gb859 ≠ gb860)); have n9_ := zA ((by rw [hg]; exact Nat.ne_of_gt (blk_lt (g := gb859) (o := .cells #[.bool a1_0, .slice A1_1 l1_1.length c1_1] 99 (0, 0)) (by (with_reducible repeat (first | refine zgq ?_ _ | refine zhq ?_ | refine ziq ?_ _)); exact BK859.out)) : gb860 ≠ gb859)); clear BK858; clear BK859; clear HB; have BK858 := n0_; have BK859 := n1_; have HB := n2_; have BK860 := n3_; have GW860 := n4_; have GE860 := n5_; have NB858_860 := n6_; have NB860_858 := n7_; have NB859_860 := n8_; have NB860_859 := n9_; clear n0_ n1_ n2_ n3_ n4_ n5_ n6_ n7_ n8_ n9_; clear hb hbox hg; have hnb8 := NB858_859.out; have hnc8 := NB859_858.out; have hnb9 := NB858_860.out; have hnc9 := NB860_858.out; have hcz10_0 : w7.cell? ⟨gb858, 0, none⟩ = some (.bool a0_0) := (zmq BK858.out 0).trans rfl; have hcz10_1 : w7.cell? ⟨gb858, 1, none⟩ = some (.slice A0_1 l0_1.length c0_1) := (zmq BK858.out 1).trans rfl; have hfz10_0 := znq BK858.out 0; have hfz10_1 := znq BK858.out 1; have hnb11 := NB859_860.out; have hnc11 := NB860_859.out; have hcz12_0 : w7.cell? ⟨gb859, 0, none⟩ = some (.bool a1_0) := (zmq BK859.out 0).trans rfl; have hcz12_1 : w7.cell? ⟨gb859, 1, none⟩ = some (.slice A1_1 l1_1.length c1_1) := (zmq BK859.out 1).trans rfl; have hfz12_0 := znq BK859.out 0; have hfz12_1 := znq BK859.out 1))
  have n0_ := zA (zhq BK858.out)
  have n1_ := zA (zhq BK859.out)
  have n2_ := zA (zhq BK860.out)
  have n3_ := zA (zcq HB.out)
  clear BK858
  clear BK859
  clear BK860
  clear HB
  have BK858 := n0_
  have BK859 := n1_
  have BK860 := n2_
  have HB := n3_
  clear n0_ n1_ n2_ n3_
  refine start_ (n := 9) (S := fun w' => w'.cell? ⟨gb858, 0, none⟩ = some (.bool a0_0) ∧ w'.cell? ⟨gb858, 1, none⟩ = some (.slice A0_1 l0_1.length c0_1) ∧ w'.cell? ⟨gb859, 0, none⟩ = some (.bool a1_0) ∧ w'.cell? ⟨gb859, 1, none⟩ = some (.slice A1_1 l1_1.length c1_1)) (ds := []) #[false, false, false, false, false, false, false, false, false] (by kernel_rfl) rfl rfl ⟨(zmq BK858.out 0).trans rfl, (zmq BK858.out 1).trans rfl, (zmq BK859.out 0).trans rfl, (zmq BK859.out 1).trans rfl⟩ (fun hHeld => ?_); refine with_tabW tabardref4_Plus.tab2 tabardref4_Plus.bits2 (fun HT_ HW_ => ?_)
  generalize w7.drew = w13 at BK858 BK859 BK860 HB hHeld ⊢
  refine pure_ (i := 0) (N := some 10) (v := ?_) (a' := ?_) #[true, false, false, false, false, false, false, false, false] rfl rfl (any_of HT_.out (by kernel_rfl)) (fun _ _ _ h => h) (Or.inl ⟨by rfl, ?_⟩) ?_ ?_
  rotate_left
  ·
   intro w'
   go_simp
   with_reducible rfl
  rotate_left
  ·
   simp only [Act.put, List.setIfInBounds_toArray, List.set_cons_zero, List.set_cons_succ, i64_w, i32_w]
   rfl
  refine pure_ (i := 2) (N := some 12) (v := ?_) (a' := ?_) #[true, false, true, false, false, false, false, false, false] rfl rfl (any_of HT_.out (by kernel_rfl)) (fun _ _ _ h => h) (Or.inl ⟨by rfl, ?_⟩) ?_ ?_
  rotate_left
  ·
   intro w'
   go_simp
   with_reducible rfl
  rotate_left
  ·
   simp only [Act.put, List.setIfInBounds_toArray, List.set_cons_zero, List.set_cons_succ, i64_w, i32_w]
   rfl
  refine pure_ (i := 4) (N := some 14) (v := ?_) (a' := ?_) #[true, false, true, false, true, false, false, false, false] rfl rfl (any_of HT_.out (by kernel_rfl)) (fun _ _ _ h => h) (Or.inl ⟨by rfl, ?_⟩) ?_ ?_
  rotate_left
  ·
   intro w'
   go_simp
   with_reducible rfl
  rotate_left
  ·
   simp only [Act.put, List.setIfInBounds_toArray, List.set_cons_zero, List.set_cons_succ, i64_w, i32_w]
   rfl
  refine take_ (i := 1) (N := some 11) (v := ?_) (a' := ?_) #[true, true, true, false, true, false, false, false, false] rfl rfl (take_ofW HT_.out HW_.out (by kernel_rfl)) (fun _ _ _ h => h) (Or.inl ⟨by rfl, ?_⟩) hHeld ?_ ?_
  rotate_left
  ·
   rintro w' ⟨s0, s1, s2, s3⟩
   go_simp
   with_reducible rfl
  rotate_left
  ·
   simp only [Act.put, List.setIfInBounds_toArray, List.set_cons_zero, List.set_cons_succ, i64_w, i32_w]
   rfl
  refine take_ (i := 3) (N := some 13) (v := ?_) (a' := ?_) #[true, true, true, true, true, false, false, false, false] rfl rfl (take_ofW HT_.out HW_.out (by kernel_rfl)) (fun _ _ _ h => h) (Or.inl ⟨by rfl, ?_⟩) hHeld ?_ ?_
  rotate_left
  ·
   rintro w' ⟨s0, s1, s2, s3⟩
   go_simp
   with_reducible rfl
  rotate_left
  ·
   simp only [Act.put, List.setIfInBounds_toArray, List.set_cons_zero, List.set_cons_succ, i64_w, i32_w]
   rfl
  refine take_ (i := 5) (N := some 15) (v := ?_) (a' := ?_) #[true, true, true, true, true, true, false, false, false] rfl rfl (take_ofW HT_.out HW_.out (by kernel_rfl)) (fun _ _ _ h => h) (Or.inl ⟨by rfl, ?_⟩) hHeld ?_ ?_
  rotate_left
  ·
   rintro w' ⟨s0, s1, s2, s3⟩
   go_simp
   with_reducible rfl
  rotate_left
  ·
   simp only [Act.put, List.setIfInBounds_toArray, List.set_cons_zero, List.set_cons_succ, i64_w, i32_w]
   rfl
  refine one_ (i := 6) (N := some 16) #[true, true, true, true, true, true, true, false, false] rfl rfl (one_of HT_.out (by kernel_rfl)) (by decide) (fun K hK => ?_)
  refine goes_ Try.func82 (by kernel_rfl) rfl #[.slice A0_1 l0_1.length c0_1, .slice A1_1 l1_1.length c1_1] (by rfl) rfl rfl (by (try simp only [List.map_toArray, List.map_cons, List.map_nil]); first | done | rfl | (simp only [List.length_drop, List.length_take]; rfl)) ?_
  with_reducible refine (tabardref1_Plus.calls k _ _ l0_1 _ _ l1_1 t861 _ ?side1 ?side2 ?side3 ?side4 A4.out).mono ?_
  (case side1 => repeat (first | exact (Kd.C_below HR0_1.out HB.out) | (with_reducible refine Kd.C_alloc ?_ _) | (with_reducible refine Kd.C_drewN ?_ _) | (with_reducible refine Kd.C_drew ?_)))
  (case side2 => exact HC0_1.out)
  (case side3 => repeat (first | exact (Kd.C_below HR1_1.out HB.out) | (with_reducible refine Kd.C_alloc ?_ _) | (with_reducible refine Kd.C_drewN ?_ _) | (with_reducible refine Kd.C_drew ?_)))
  (case side4 => exact HC1_1.out)
  rintro e w14 ⟨v862, rfl, ho0, hb⟩
  refine ⟨_, rfl, ?_⟩
  have n0_ := zA (Kd.R_lower ho0 (zfq (by repeat (first | (with_reducible first | exact HB.out | apply zaq | apply zbq | apply zcq | refine zdq ?_ GE858.out | refine zdq ?_ GE859.out | refine zdq ?_ GE860.out) | exact HB.out))))
  have n1_ := zA (zlq (g := gb858) (o := .cells #[.bool a0_0, .slice A0_1 l0_1.length c0_1] 99 (0, 0)) (by (with_reducible repeat (first | refine zgq ?_ _ | refine zhq ?_ | refine ziq ?_ _)); exact BK858.out) hb)
  have n2_ := zA (zlq (g := gb859) (o := .cells #[.bool a1_0, .slice A1_1 l1_1.length c1_1] 99 (0, 0)) (by (with_reducible repeat (first | refine zgq ?_ _ | refine zhq ?_ | refine ziq ?_ _)); exact BK859.out) hb)
  have n3_ := zA (zlq (g := gb860) (o := .cells #[.bool false, .slice none 0 0] 99 (0, 0)) (by (with_reducible repeat (first | refine zgq ?_ _ | refine zhq ?_ | refine ziq ?_ _)); exact BK860.out) hb)
  have n4_ := zA (zeq (by repeat (first | (with_reducible first | exact HB.out | apply zaq | apply zbq | apply zcq | refine zdq ?_ GE858.out | refine zdq ?_ GE859.out | refine zdq ?_ GE860.out) | exact HB.out)) hb)
  clear BK858
  clear BK859
  clear BK860
  clear HB
  have HO863 := n0_
  have BK858 := n1_
  have BK859 := n2_
  have BK860 := n3_
  have HB := n4_
  clear n0_ n1_ n2_ n3_ n4_
  (try clear hb)
  (try clear hb2)
  (try clear hk)
  (try clear hi)
  (try clear ho0)
  obtain ⟨Ao15, co15, eo15⟩ := Kd.R_slice HO863.out
  (first | subst eo15 | (injection eo15 with f1_ f2_ f3_; have f4_ := f1_.symm; have f5_ := f3_.symm; clear f1_ f2_ f3_; subst f4_; subst f5_))
  refine hK.out _ _ ⟨(zmq BK858.out 0).trans rfl, (zmq BK858.out 1).trans rfl, (zmq BK859.out 0).trans rfl, (zmq BK859.out 1).trans rfl⟩ (fun hHeld => ?_)
  clear hK K
  refine norm_ (a' := ?_) ?_ ?_
  rotate_left
  ·
   show Act.put _ (some 16) _ = _
   simp only [Act.put, List.setIfInBounds_toArray, List.set_cons_zero, List.set_cons_succ, i64_w, i32_w]
   rfl
  refine pure_ (i := 7) (N := some 17) (v := ?_) (a' := ?_) #[true, true, true, true, true, true, true, true, false] rfl rfl (any_of HT_.out (by kernel_rfl)) (fun _ _ _ h => h) (Or.inl ⟨by rfl, ?_⟩) ?_ ?_
  rotate_left
  ·
   intro w'
   go_simp
   with_reducible rfl
  rotate_left
  ·
   simp only [Act.put, List.setIfInBounds_toArray, List.set_cons_zero, List.set_cons_succ, i64_w, i32_w]
   rfl
  refine one_ (i := 8) (N := none) #[true, true, true, true, true, true, true, true, true] rfl rfl (one_of HT_.out (by kernel_rfl)) (by decide) (fun K hK => ?_)
  have hs16 : w14.cell? ⟨gb860, 0, none⟩ = some (.bool false) := (zmq BK860.out 0).trans rfl
  have hfs16 := znq BK860.out 0
  have hns16_0 := NB858_860.out
  have hns16_1 := NB859_860.out
  have hms16_0 := NB860_858.out
  have hms16_1 := NB860_859.out
  have hs17 : w14.cell? ⟨gb860, 1, none⟩ = some (.slice none 0 0) := (zmq BK860.out 1).trans rfl
  have hfs17 := znq BK860.out 1
  have hns17_0 := NB858_860.out
  have hns17_1 := NB859_860.out
  have hms17_0 := NB860_858.out
  have hms17_1 := NB860_859.out
  refine skip_ (w1 := ?_) (by rfl) rfl ?_ ?_
  rotate_left
  ·
   go_simp
   rfl
  refine hK.out _ _ ⟨((cell_far (p := ⟨gb860, _, none⟩) NB858_860.out _).trans (((cell_far (p := ⟨gb860, _, none⟩) NB858_860.out _).trans (hHeld.1)))), ((cell_far (p := ⟨gb860, _, none⟩) NB858_860.out _).trans (((cell_far (p := ⟨gb860, _, none⟩) NB858_860.out _).trans (hHeld.2.1)))), ((cell_far (p := ⟨gb860, _, none⟩) NB859_860.out _).trans (((cell_far (p := ⟨gb860, _, none⟩) NB859_860.out _).trans (hHeld.2.2.1)))), ((cell_far (p := ⟨gb860, _, none⟩) NB859_860.out _).trans (((cell_far (p := ⟨gb860, _, none⟩) NB859_860.out _).trans (hHeld.2.2.2))))⟩ (fun hHeld => ?_)
  clear hK K
  refine done_ (done_of HT_.out (by kernel_rfl)) ?_
  try go_wp2
  refine bodyPost_ret (results_cell_row rfl _ _ gb860 99 #[.bool a0_0, .slice Ao15 t861.length co15] (0, 0) _ rfl (by (with_reducible repeat (first | refine zgq ?_ _ | refine zhq ?_ | refine ziq ?_ _)); refine zkq (cs := #[.bool a0_0, .slice none 0 0]) ?_ 1 _ rfl; (with_reducible repeat (first | refine zgq ?_ _ | refine zhq ?_ | refine ziq ?_ _)); refine zkq (cs := #[.bool false, .slice none 0 0]) ?_ 0 _ rfl; (with_reducible repeat (first | refine zgq ?_ _ | refine zhq ?_ | refine ziq ?_ _)); exact BK860.out) Try.underlying99 rfl (by kernel_rfl)) rfl ?_
  exact ⟨_, by first | rfl | (simp [errW_none, errW_some] <;> rfl) | (simp [*, errW_none, errW_some] <;> rfl), by (with_reducible repeat (first | apply Kd.R_alloc | apply Kd.R_drewN | apply Kd.R_drew)); exact Kd.R_mono (Kd.R_far (p := ⟨gb860, 1, none⟩) (Kd.R_far (p := ⟨gb860, 0, none⟩) (Kd.R_types HO863.out BK860.out (by decide)) (fun _ hk => hk.2) (.bool a0_0)) (fun _ hk => hk.2) (.slice Ao15 t861.length co15)) (fun _ hk => trivial), by repeat (first | (with_reducible first | exact HB.out | apply zaq | apply zbq | apply zcq | refine zdq ?_ GE858.out | refine zdq ?_ GE859.out | refine zdq ?_ GE860.out) | exact HB.out)⟩
 ·
  rw [if_neg c3] at H
  have c3b0 : (a0_0 == a1_0) = false := by simpa using c3
  (try (have c3b1 : decide (a0_0 = a1_0) = false := by simpa using c3))
  (try (have c3b2 : (a0_0 == a1_0) = false := by simpa using c3))
  (try (have c3b3 : ¬ (a0_0 = a1_0) := by simpa using c3))
  clear c3
  replace H := Option.bind_eq_some_iff.mp H
  obtain ⟨t864, A180, H⟩ := H
  replace H : (if t864 ≥ 0 then ((tabardref1_Less.f k l0_1 l1_1).bind fun t865 => (some (a0_0, t865))) else ((tabardref1_Less.f k l1_1 l0_1).bind fun t868 => (some (a1_0, t868)))) = some (r1, r2) := H
  have A18 := zA A180
  clear A180
  by_cases c19 : t864 ≥ 0
  ·
   rw [if_pos c19] at H
   have c19b0 : decide (0 ≤ t864) = true := decide_eq_true c19
   clear c19
   replace H := Option.bind_eq_some_iff.mp H
   obtain ⟨t865, A200, H⟩ := H
   replace H : (some (a0_0, t865)) = some (r1, r2) := H
   have A20 := zA A200
   clear A200
   simp only [Option.some.injEq, Prod.mk.injEq] at H
   obtain ⟨rfl, rfl⟩ := H
   go_enter Try.func95, Try.ntmps95
   try go_wp2_with (first | ((with_reducible refine zpq (N := 2) rfl ?_); refine zqq ?hg (N := 2) ?hd (cs := #[.bool a0_0, .slice A0_1 l0_1.length c0_1]) (t := 99) ?hr ?_; (case hd => rfl); (case hg => rfl); (case hr => first | (go_simp; done) | (go_simp; rfl)); intro gb858 hg w21 hbox hb; have n0_ := zA (zeq (by repeat (first | (with_reducible first | exact HB.out | apply zaq | apply zbq | apply zcq) | exact HB.out)) hb); have n1_ := zA (hbox); have n2_ := zA ((by rw [hg]; exact (zfq (by repeat (first | (with_reducible first | exact HB.out | apply zaq | apply zbq | apply zcq) | exact HB.out))) : w.heap.size ≤ gb858)); have n3_ := zA ((by rw [hg]; exact (zfq (by repeat (first | (with_reducible first | exact HB.out | apply zaq | apply zbq | apply zcq) | exact HB.out))) : w.heap.size ≤ gb858)); clear HB; have HB := n0_; have BK858 := n1_; have GW858 := n2_; have GE858 := n3_; clear n0_ n1_ n2_ n3_; clear hb hbox hg) | ((with_reducible refine zpq (N := 3) rfl ?_); refine zqq ?hg (N := 3) ?hd (cs := #[.bool a1_0, .slice A1_1 l1_1.length c1_1]) (t := 99) ?hr ?_; (case hd => rfl); (case hg => rfl); (case hr => first | (go_simp; done) | (go_simp; rfl)); intro gb859 hg w22 hbox hb; have n0_ := zA (zlq (g := gb858) (o := .cells #[.bool a0_0, .slice A0_1 l0_1.length c0_1] 99 (0, 0)) (by (with_reducible repeat (first | refine zgq ?_ _ | refine zhq ?_ | refine ziq ?_ _)); exact BK858.out) hb); have n1_ := zA (zeq (by repeat (first | (with_reducible first | exact HB.out | apply zaq | apply zbq | apply zcq | refine zdq ?_ GE858.out) | exact HB.out)) hb); have n2_ := zA (hbox); have n3_ := zA ((by rw [hg]; exact (zfq (by repeat (first | (with_reducible first | exact HB.out | apply zaq | apply zbq | apply zcq | refine zdq ?_ GE858.out) | exact HB.out))) : w.heap.size ≤ gb859)); have n4_ := zA ((by rw [hg]; exact (zfq (by repeat (first | (with_reducible first | exact HB.out | apply zaq | apply zbq | apply zcq | refine zdq ?_ GE858.out) | exact HB.out))) : w.heap.size ≤ gb859)); have n5_ := zA ((by rw [hg]; exact Nat.ne_of_lt (blk_lt (g := gb858) (o := .cells #[.bool a0_0, .slice A0_1 l0_1.length c0_1] 99 (0, 0)) (by (with_reducible repeat (first | refine zgq ?_ _ | refine zhq ?_ | refine ziq ?_ _)); exact BK858.out)) : gb858 ≠ gb859)); have n6_ := zA ((by rw [hg]; exact Nat.ne_of_gt (blk_lt (g := gb858) (o := .cells #[.bool a0_0, .slice A0_1 l0_1.length c0_1] 99 (0, 0)) (by (with_reducible repeat (first | refine zgq ?_ _ | refine zhq ?_ | refine ziq ?_ _)); exact BK858.out)) : gb859 ≠ gb858)); clear BK858; clear HB; have BK858 := n0_; have HB := n1_; have BK859 := n2_; have GW859 := n3_; have GE859 := n4_; have NB858_859 := n5_; have NB859_858 := n6_; clear n0_ n1_ n2_ n3_ n4_ n5_ n6_; clear hb hbox hg) | ((with_reducible refine zpq (N := 4) rfl ?_); refine zqq ?hg (N := 4) ?hd (cs := #[.bool false, .slice none 0 0]) (t := 99) ?hr ?_; (case hd => rfl); (case hg => rfl); (case hr => first | (go_simp; done) | (go_simp; rfl)); intro gb860 hg w23 hbox hb; have n0_ := zA (zlq (g := gb858) (o := .cells #[.bool a0_0, .slice A0_1 l0_1.length c0_1] 99 (0, 0)) (by (with_reducible repeat (first | refine zgq ?_ _ | refine zhq ?_ | refine ziq ?_ _)); exact BK858.out) hb); have n1_ := zA (zlq (g := gb859) (o := .cells #[.bool a1_0, .slice A1_1 l1_1.length c1_1] 99 (0, 0)) (by (with_reducible repeat (first | refine zgq ?_ _ | refine zhq ?_ | refine ziq ?_ _)); exact BK859.out) hb); have n2_ := zA (zeq (by repeat (first | (with_reducible first | exact HB.out | apply zaq | apply zbq | apply zcq | refine zdq ?_ GE858.out | refine zdq ?_ GE859.out) | exact HB.out)) hb); have n3_ := zA (hbox); have n4_ := zA ((by rw [hg]; exact (zfq (by repeat (first | (with_reducible first | exact HB.out | apply zaq | apply zbq | apply zcq | refine zdq ?_ GE858.out | refine zdq ?_ GE859.out) | exact HB.out))) : w.heap.size ≤ gb860)); have n5_ := zA ((by rw [hg]; exact (zfq (by repeat (first | (with_reducible first | exact HB.out | apply zaq | apply zbq | apply zcq | refine zdq ?_ GE858.out | refine zdq ?_ GE859.out) | exact HB.out))) : w.heap.size ≤ gb860)); have n6_ := zA ((by rw [hg]; exact Nat.ne_of_lt (blk_lt (g := gb858) (o := .cells #[.bool a0_0, .slice A0_1 l0_1.length c0_1] 99 (0, 0)) (by (with_reducible repeat (first | refine zgq ?_ _ | refine zhq ?_ | refine ziq ?_ _)); exact BK858.out)) : gb858 ≠ gb860)); have n7_ := zA ((by rw [hg]; exact Nat.ne_of_gt (blk_lt (g := gb858) (o := .cells #[.bool a0_0, .slice A0_1 l0_1.length c0_1] 99 (0, 0)) (by (with_reducible repeat (first | refine zgq ?_ _ | refine zhq ?_ | refine ziq ?_ _)); exact BK858.out)) : gb860 ≠ gb858)); have n8_ := zA ((by rw [hg]; exact Nat.ne_of_lt (blk_lt (g := gb859) (o := .cells #[.bool a1_0, .slice A1_1 l1_1.length c1_1] 99 (0, 0)) (by (with_reducible repeat (first | refine zgq ?_ _ | refine zhq ?_ | refine ziq ?_ _)); exact BK859.out)) : gb859 ≠ gb860)); have n9_ := zA ((by rw [hg]; exact Nat.ne_of_gt (blk_lt (g := gb859) (o := .cells #[.bool a1_0, .slice A1_1 l1_1.length c1_1] 99 (0, 0)) (by (with_reducible repeat (first | refine zgq ?_ _ | refine zhq ?_ | refine ziq ?_ _)); exact BK859.out)) : gb860 ≠ gb859)); clear BK858; clear BK859; clear HB; have BK858 := n0_; have BK859 := n1_; have HB := n2_; have BK860 := n3_; have GW860 := n4_; have GE860 := n5_; have NB858_860 := n6_; have NB860_858 := n7_; have NB859_860 := n8_; have NB860_859 := n9_; clear n0_ n1_ n2_ n3_ n4_ n5_ n6_ n7_ n8_ n9_; clear hb hbox hg; have hnb24 := NB858_859.out; have hnc24 := NB859_858.out; have hnb25 := NB858_860.out; have hnc25 := NB860_858.out; have hcz26_0 : w23.cell? ⟨gb858, 0, none⟩ = some (.bool a0_0) := (zmq BK858.out 0).trans rfl; have hcz26_1 : w23.cell? ⟨gb858, 1, none⟩ = some (.slice A0_1 l0_1.length c0_1) := (zmq BK858.out 1).trans rfl; have hfz26_0 := znq BK858.out 0; have hfz26_1 := znq BK858.out 1; have hnb27 := NB859_860.out; have hnc27 := NB860_859.out; have hcz28_0 : w23.cell? ⟨gb859, 0, none⟩ = some (.bool a1_0) := (zmq BK859.out 0).trans rfl; have hcz28_1 : w23.cell? ⟨gb859, 1, none⟩ = some (.slice A1_1 l1_1.length c1_1) := (zmq BK859.out 1).trans rfl; have hfz28_0 := znq BK859.out 0; have hfz28_1 := znq BK859.out 1) | ((with_reducible refine zoq (f := 48) rfl ?_); refine goesL_ (some 22) rfl rfl Try.func48 (by kernel_rfl) rfl #[.slice A0_1 l0_1.length c0_1, .slice A1_1 l1_1.length c1_1] rfl (by (try simp only [List.map_toArray, List.map_cons, List.map_nil]); first | done | rfl | (simp only [List.length_drop, List.length_take]; rfl)) ?_; (with_reducible refine (tabardref1_Cmp.calls k _ _ l0_1 _ _ l1_1 t864 _ ?side1 ?side2 ?side3 ?side4 A18.out).mono ?_); (case side1 => repeat (first | exact (Kd.C_below HR0_1.out HB.out) | (with_reducible refine Kd.C_alloc ?_ _) | (with_reducible refine Kd.C_drewN ?_ _) | (with_reducible refine Kd.C_drew ?_))); (case side2 => exact HC0_1.out); (case side3 => repeat (first | exact (Kd.C_below HR1_1.out HB.out) | (with_reducible refine Kd.C_alloc ?_ _) | (with_reducible refine Kd.C_drewN ?_ _) | (with_reducible refine Kd.C_drew ?_))); (case side4 => exact HC1_1.out); rintro e w29 ⟨rfl, hb⟩; refine ⟨_, rfl, ?_⟩; have n0_ := zA (zlq (g := gb858) (o := .cells #[.bool a0_0, .slice A0_1 l0_1.length c0_1] 99 (0, 0)) (by (with_reducible repeat (first | refine zgq ?_ _ | refine zhq ?_ | refine ziq ?_ _)); exact BK858.out) hb); have n1_ := zA (zlq (g := gb859) (o := .cells #[.bool a1_0, .slice A1_1 l1_1.length c1_1] 99 (0, 0)) (by (with_reducible repeat (first | refine zgq ?_ _ | refine zhq ?_ | refine ziq ?_ _)); exact BK859.out) hb); have n2_ := zA (zlq (g := gb860) (o := .cells #[.bool false, .slice none 0 0] 99 (0, 0)) (by (with_reducible repeat (first | refine zgq ?_ _ | refine zhq ?_ | refine ziq ?_ _)); exact BK860.out) hb); have n3_ := zA (zeq (by repeat (first | (with_reducible first | exact HB.out | apply zaq | apply zbq | apply zcq | refine zdq ?_ GE858.out | refine zdq ?_ GE859.out | refine zdq ?_ GE860.out) | exact HB.out)) hb); clear BK858; clear BK859; clear BK860; clear HB; have BK858 := n0_; have BK859 := n1_; have BK860 := n2_; have HB := n3_; clear n0_ n1_ n2_ n3_; (try clear hb); (try clear hb2); (try clear hk); (try clear hi)))
   have n0_ := zA (zhq BK858.out)
   have n1_ := zA (zhq BK859.out)
   have n2_ := zA (zhq BK860.out)
   have n3_ := zA (zcq HB.out)
   clear BK858
   clear BK859
   clear BK860
   clear HB
   have BK858 := n0_
   have BK859 := n1_
   have BK860 := n2_
   have HB := n3_
   clear n0_ n1_ n2_ n3_
   refine start_ (n := 9) (S := fun w' => w'.cell? ⟨gb858, 0, none⟩ = some (.bool a0_0) ∧ w'.cell? ⟨gb858, 1, none⟩ = some (.slice A0_1 l0_1.length c0_1) ∧ w'.cell? ⟨gb859, 0, none⟩ = some (.bool a1_0) ∧ w'.cell? ⟨gb859, 1, none⟩ = some (.slice A1_1 l1_1.length c1_1)) (ds := []) #[false, false, false, false, false, false, false, false, false] (by kernel_rfl) rfl rfl ⟨(zmq BK858.out 0).trans rfl, (zmq BK858.out 1).trans rfl, (zmq BK859.out 0).trans rfl, (zmq BK859.out 1).trans rfl⟩ (fun hHeld => ?_); refine with_tabW tabardref4_Plus.tab4 tabardref4_Plus.bits4 (fun HT_ HW_ => ?_)
   generalize w29.drew = w30 at BK858 BK859 BK860 HB hHeld ⊢
   refine pure_ (i := 0) (N := some 24) (v := ?_) (a' := ?_) #[true, false, false, false, false, false, false, false, false] rfl rfl (any_of HT_.out (by kernel_rfl)) (fun _ _ _ h => h) (Or.inl ⟨by rfl, ?_⟩) ?_ ?_
   rotate_left
   ·
    intro w'
    go_simp
    with_reducible rfl
   rotate_left
   ·
    simp only [Act.put, List.setIfInBounds_toArray, List.set_cons_zero, List.set_cons_succ, i64_w, i32_w]
    rfl
   refine pure_ (i := 2) (N := some 26) (v := ?_) (a' := ?_) #[true, false, true, false, false, false, false, false, false] rfl rfl (any_of HT_.out (by kernel_rfl)) (fun _ _ _ h => h) (Or.inl ⟨by rfl, ?_⟩) ?_ ?_
   rotate_left
   ·
    intro w'
    go_simp
    with_reducible rfl
   rotate_left
   ·
    simp only [Act.put, List.setIfInBounds_toArray, List.set_cons_zero, List.set_cons_succ, i64_w, i32_w]
    rfl
   refine pure_ (i := 4) (N := some 28) (v := ?_) (a' := ?_) #[true, false, true, false, true, false, false, false, false] rfl rfl (any_of HT_.out (by kernel_rfl)) (fun _ _ _ h => h) (Or.inl ⟨by rfl, ?_⟩) ?_ ?_
   rotate_left
   ·
    intro w'
    go_simp
    with_reducible rfl
   rotate_left
   ·
    simp only [Act.put, List.setIfInBounds_toArray, List.set_cons_zero, List.set_cons_succ, i64_w, i32_w]
    rfl
   refine take_ (i := 1) (N := some 25) (v := ?_) (a' := ?_) #[true, true, true, false, true, false, false, false, false] rfl rfl (take_ofW HT_.out HW_.out (by kernel_rfl)) (fun _ _ _ h => h) (Or.inl ⟨by rfl, ?_⟩) hHeld ?_ ?_
   rotate_left
   ·
    rintro w' ⟨s0, s1, s2, s3⟩
    go_simp
    with_reducible rfl
   rotate_left
   ·
    simp only [Act.put, List.setIfInBounds_toArray, List.set_cons_zero, List.set_cons_succ, i64_w, i32_w]
    rfl
   refine take_ (i := 3) (N := some 27) (v := ?_) (a' := ?_) #[true, true, true, true, true, false, false, false, false] rfl rfl (take_ofW HT_.out HW_.out (by kernel_rfl)) (fun _ _ _ h => h) (Or.inl ⟨by rfl, ?_⟩) hHeld ?_ ?_
   rotate_left
   ·
    rintro w' ⟨s0, s1, s2, s3⟩
    go_simp
    with_reducible rfl
   rotate_left
   ·
    simp only [Act.put, List.setIfInBounds_toArray, List.set_cons_zero, List.set_cons_succ, i64_w, i32_w]
    rfl
   refine take_ (i := 5) (N := some 29) (v := ?_) (a' := ?_) #[true, true, true, true, true, true, false, false, false] rfl rfl (take_ofW HT_.out HW_.out (by kernel_rfl)) (fun _ _ _ h => h) (Or.inl ⟨by rfl, ?_⟩) hHeld ?_ ?_
   rotate_left
   ·
    rintro w' ⟨s0, s1, s2, s3⟩
    go_simp
    with_reducible rfl
   rotate_left
   ·
    simp only [Act.put, List.setIfInBounds_toArray, List.set_cons_zero, List.set_cons_succ, i64_w, i32_w]
    rfl
   refine one_ (i := 6) (N := some 30) #[true, true, true, true, true, true, true, false, false] rfl rfl (one_of HT_.out (by kernel_rfl)) (by decide) (fun K hK => ?_)
   refine goes_ Try.func84 (by kernel_rfl) rfl #[.slice A0_1 l0_1.length c0_1, .slice A1_1 l1_1.length c1_1] (by rfl) rfl rfl (by (try simp only [List.map_toArray, List.map_cons, List.map_nil]); first | done | rfl | (simp only [List.length_drop, List.length_take]; rfl)) ?_
   with_reducible refine (tabardref1_Less.calls k _ _ l0_1 _ _ l1_1 t865 _ ?side1 ?side2 ?side3 ?side4 A20.out).mono ?_
   (case side1 => repeat (first | exact (Kd.C_below HR0_1.out HB.out) | (with_reducible refine Kd.C_alloc ?_ _) | (with_reducible refine Kd.C_drewN ?_ _) | (with_reducible refine Kd.C_drew ?_)))
   (case side2 => exact HC0_1.out)
   (case side3 => repeat (first | exact (Kd.C_below HR1_1.out HB.out) | (with_reducible refine Kd.C_alloc ?_ _) | (with_reducible refine Kd.C_drewN ?_ _) | (with_reducible refine Kd.C_drew ?_)))
   (case side4 => exact HC1_1.out)
   rintro e w31 ⟨v866, rfl, ho0, hb⟩
   refine ⟨_, rfl, ?_⟩
   have n0_ := zA (Kd.R_lower ho0 (zfq (by repeat (first | (with_reducible first | exact HB.out | apply zaq | apply zbq | apply zcq | refine zdq ?_ GE858.out | refine zdq ?_ GE859.out | refine zdq ?_ GE860.out) | exact HB.out))))
   have n1_ := zA (zlq (g := gb858) (o := .cells #[.bool a0_0, .slice A0_1 l0_1.length c0_1] 99 (0, 0)) (by (with_reducible repeat (first | refine zgq ?_ _ | refine zhq ?_ | refine ziq ?_ _)); exact BK858.out) hb)
   have n2_ := zA (zlq (g := gb859) (o := .cells #[.bool a1_0, .slice A1_1 l1_1.length c1_1] 99 (0, 0)) (by (with_reducible repeat (first | refine zgq ?_ _ | refine zhq ?_ | refine ziq ?_ _)); exact BK859.out) hb)
   have n3_ := zA (zlq (g := gb860) (o := .cells #[.bool false, .slice none 0 0] 99 (0, 0)) (by (with_reducible repeat (first | refine zgq ?_ _ | refine zhq ?_ | refine ziq ?_ _)); exact BK860.out) hb)
   have n4_ := zA (zeq (by repeat (first | (with_reducible first | exact HB.out | apply zaq | apply zbq | apply zcq | refine zdq ?_ GE858.out | refine zdq ?_ GE859.out | refine zdq ?_ GE860.out) | exact HB.out)) hb)
   clear BK858
   clear BK859
   clear BK860
   clear HB
   have HO867 := n0_
   have BK858 := n1_
   have BK859 := n2_
   have BK860 := n3_
   have HB := n4_
   clear n0_ n1_ n2_ n3_ n4_
   (try clear hb)
   (try clear hb2)
   (try clear hk)
   (try clear hi)
   (try clear ho0)
   obtain ⟨Ao32, co32, eo32⟩ := Kd.R_slice HO867.out
   (first | subst eo32 | (injection eo32 with f1_ f2_ f3_; have f4_ := f1_.symm; have f5_ := f3_.symm; clear f1_ f2_ f3_; subst f4_; subst f5_))
   refine hK.out _ _ ⟨(zmq BK858.out 0).trans rfl, (zmq BK858.out 1).trans rfl, (zmq BK859.out 0).trans rfl, (zmq BK859.out 1).trans rfl⟩ (fun hHeld => ?_)
   clear hK K
   refine norm_ (a' := ?_) ?_ ?_
   rotate_left
   ·
    show Act.put _ (some 30) _ = _
    simp only [Act.put, List.setIfInBounds_toArray, List.set_cons_zero, List.set_cons_succ, i64_w, i32_w]
    rfl
   refine pure_ (i := 7) (N := some 31) (v := ?_) (a' := ?_) #[true, true, true, true, true, true, true, true, false] rfl rfl (any_of HT_.out (by kernel_rfl)) (fun _ _ _ h => h) (Or.inl ⟨by rfl, ?_⟩) ?_ ?_
   rotate_left
   ·
    intro w'
    go_simp
    with_reducible rfl
   rotate_left
   ·
    simp only [Act.put, List.setIfInBounds_toArray, List.set_cons_zero, List.set_cons_succ, i64_w, i32_w]
    rfl
   refine one_ (i := 8) (N := none) #[true, true, true, true, true, true, true, true, true] rfl rfl (one_of HT_.out (by kernel_rfl)) (by decide) (fun K hK => ?_)
   have hs33 : w31.cell? ⟨gb860, 0, none⟩ = some (.bool false) := (zmq BK860.out 0).trans rfl
   have hfs33 := znq BK860.out 0
   have hns33_0 := NB858_860.out
   have hns33_1 := NB859_860.out
   have hms33_0 := NB860_858.out
   have hms33_1 := NB860_859.out
   have hs34 : w31.cell? ⟨gb860, 1, none⟩ = some (.slice none 0 0) := (zmq BK860.out 1).trans rfl
   have hfs34 := znq BK860.out 1
   have hns34_0 := NB858_860.out
   have hns34_1 := NB859_860.out
   have hms34_0 := NB860_858.out
   have hms34_1 := NB860_859.out
   refine skip_ (w1 := ?_) (by rfl) rfl ?_ ?_
   rotate_left
   ·
    go_simp
    rfl
   refine hK.out _ _ ⟨((cell_far (p := ⟨gb860, _, none⟩) NB858_860.out _).trans (((cell_far (p := ⟨gb860, _, none⟩) NB858_860.out _).trans (hHeld.1)))), ((cell_far (p := ⟨gb860, _, none⟩) NB858_860.out _).trans (((cell_far (p := ⟨gb860, _, none⟩) NB858_860.out _).trans (hHeld.2.1)))), ((cell_far (p := ⟨gb860, _, none⟩) NB859_860.out _).trans (((cell_far (p := ⟨gb860, _, none⟩) NB859_860.out _).trans (hHeld.2.2.1)))), ((cell_far (p := ⟨gb860, _, none⟩) NB859_860.out _).trans (((cell_far (p := ⟨gb860, _, none⟩) NB859_860.out _).trans (hHeld.2.2.2))))⟩ (fun hHeld => ?_)
   clear hK K
   refine done_ (done_of HT_.out (by kernel_rfl)) ?_
   try go_wp2
   refine bodyPost_ret (results_cell_row rfl _ _ gb860 99 #[.bool a0_0, .slice Ao32 t865.length co32] (0, 0) _ rfl (by (with_reducible repeat (first | refine zgq ?_ _ | refine zhq ?_ | refine ziq ?_ _)); refine zkq (cs := #[.bool a0_0, .slice none 0 0]) ?_ 1 _ rfl; (with_reducible repeat (first | refine zgq ?_ _ | refine zhq ?_ | refine ziq ?_ _)); refine zkq (cs := #[.bool false, .slice none 0 0]) ?_ 0 _ rfl; (with_reducible repeat (first | refine zgq ?_ _ | refine zhq ?_ | refine ziq ?_ _)); exact BK860.out) Try.underlying99 rfl (by kernel_rfl)) rfl ?_
   exact ⟨_, by first | rfl | (simp [errW_none, errW_some] <;> rfl) | (simp [*, errW_none, errW_some] <;> rfl), by (with_reducible repeat (first | apply Kd.R_alloc | apply Kd.R_drewN | apply Kd.R_drew)); exact Kd.R_mono (Kd.R_far (p := ⟨gb860, 1, none⟩) (Kd.R_far (p := ⟨gb860, 0, none⟩) (Kd.R_types HO867.out BK860.out (by decide)) (fun _ hk => hk.2) (.bool a0_0)) (fun _ hk => hk.2) (.slice Ao32 t865.length co32)) (fun _ hk => trivial), by repeat (first | (with_reducible first | exact HB.out | apply zaq | apply zbq | apply zcq | refine zdq ?_ GE858.out | refine zdq ?_ GE859.out | refine zdq ?_ GE860.out) | exact HB.out)⟩
  ·
   rw [if_neg c19] at H
   have c19b0 : decide (0 ≤ t864) = false := decide_eq_false c19
   clear c19
   replace H := Option.bind_eq_some_iff.mp H
   obtain ⟨t868, A350, H⟩ := H
   replace H : (some (a1_0, t868)) = some (r1, r2) := H
   have A35 := zA A350
   clear A350
   simp only [Option.some.injEq, Prod.mk.injEq] at H
   obtain ⟨rfl, rfl⟩ := H
   go_enter Try.func95, Try.ntmps95
   try go_wp2_with (first | ((with_reducible refine zpq (N := 2) rfl ?_); refine zqq ?hg (N := 2) ?hd (cs := #[.bool a0_0, .slice A0_1 l0_1.length c0_1]) (t := 99) ?hr ?_; (case hd => rfl); (case hg => rfl); (case hr => first | (go_simp; done) | (go_simp; rfl)); intro gb858 hg w36 hbox hb; have n0_ := zA (zeq (by repeat (first | (with_reducible first | exact HB.out | apply zaq | apply zbq | apply zcq) | exact HB.out)) hb); have n1_ := zA (hbox); have n2_ := zA ((by rw [hg]; exact (zfq (by repeat (first | (with_reducible first | exact HB.out | apply zaq | apply zbq | apply zcq) | exact HB.out))) : w.heap.size ≤ gb858)); have n3_ := zA ((by rw [hg]; exact (zfq (by repeat (first | (with_reducible first | exact HB.out | apply zaq | apply zbq | apply zcq) | exact HB.out))) : w.heap.size ≤ gb858)); clear HB; have HB := n0_; have BK858 := n1_; have GW858 := n2_; have GE858 := n3_; clear n0_ n1_ n2_ n3_; clear hb hbox hg) | ((with_reducible refine zpq (N := 3) rfl ?_); refine zqq ?hg (N := 3) ?hd (cs := #[.bool a1_0, .slice A1_1 l1_1.length c1_1]) (t := 99) ?hr ?_; (case hd => rfl); (case hg => rfl); (case hr => first | (go_simp; done) | (go_simp; rfl)); intro gb859 hg w37 hbox hb; have n0_ := zA (zlq (g := gb858) (o := .cells #[.bool a0_0, .slice A0_1 l0_1.length c0_1] 99 (0, 0)) (by (with_reducible repeat (first | refine zgq ?_ _ | refine zhq ?_ | refine ziq ?_ _)); exact BK858.out) hb); have n1_ := zA (zeq (by repeat (first | (with_reducible first | exact HB.out | apply zaq | apply zbq | apply zcq | refine zdq ?_ GE858.out) | exact HB.out)) hb); have n2_ := zA (hbox); have n3_ := zA ((by rw [hg]; exact (zfq (by repeat (first | (with_reducible first | exact HB.out | apply zaq | apply zbq | apply zcq | refine zdq ?_ GE858.out) | exact HB.out))) : w.heap.size ≤ gb859)); have n4_ := zA ((by rw [hg]; exact (zfq (by repeat (first | (with_reducible first | exact HB.out | apply zaq | apply zbq | apply zcq | refine zdq ?_ GE858.out) | exact HB.out))) : w.heap.size ≤ gb859)); have n5_ := zA ((by rw [hg]; exact Nat.ne_of_lt (blk_lt (g := gb858) (o := .cells #[.bool a0_0, .slice A0_1 l0_1.length c0_1] 99 (0, 0)) (by (with_reducible repeat (first | refine zgq ?_ _ | refine zhq ?_ | refine ziq ?_ _)); exact BK858.out)) : gb858 ≠ gb859)); have n6_ := zA ((by rw [hg]; exact Nat.ne_of_gt (blk_lt (g := gb858) (o := .cells #[.bool a0_0, .slice A0_1 l0_1.length c0_1] 99 (0, 0)) (by (with_reducible repeat (first | refine zgq ?_ _ | refine zhq ?_ | refine ziq ?_ _)); exact BK858.out)) : gb859 ≠ gb858)); clear BK858; clear HB; have BK858 := n0_; have HB := n1_; have BK859 := n2_; have GW859 := n3_; have GE859 := n4_; have NB858_859 := n5_; have NB859_858 := n6_; clear n0_ n1_ n2_ n3_ n4_ n5_ n6_; clear hb hbox hg) | ((with_reducible refine zpq (N := 4) rfl ?_); refine zqq ?hg (N := 4) ?hd (cs := #[.bool false, .slice none 0 0]) (t := 99) ?hr ?_; (case hd => rfl); (case hg => rfl); (case hr => first | (go_simp; done) | (go_simp; rfl)); intro gb860 hg w38 hbox hb; have n0_ := zA (zlq (g := gb858) (o := .cells #[.bool a0_0, .slice A0_1 l0_1.length c0_1] 99 (0, 0)) (by (with_reducible repeat (first | refine zgq ?_ _ | refine zhq ?_ | refine ziq ?_ _)); exact BK858.out) hb); have n1_ := zA (zlq (g := gb859) (o := .cells #[.bool a1_0, .slice A1_1 l1_1.length c1_1] 99 (0, 0)) (by (with_reducible repeat (first | refine zgq ?_ _ | refine zhq ?_ | refine ziq ?_ _)); exact BK859.out) hb); have n2_ := zA (zeq (by repeat (first | (with_reducible first | exact HB.out | apply zaq | apply zbq | apply zcq | refine zdq ?_ GE858.out | refine zdq ?_ GE859.out) | exact HB.out)) hb); have n3_ := zA (hbox); have n4_ := zA ((by rw [hg]; exact (zfq (by repeat (first | (with_reducible first | exact HB.out | apply zaq | apply zbq | apply zcq | refine zdq ?_ GE858.out | refine zdq ?_ GE859.out) | exact HB.out))) : w.heap.size ≤ gb860)); have n5_ := zA ((by rw [hg]; exact (zfq (by repeat (first | (with_reducible first | exact HB.out | apply zaq | apply zbq | apply zcq | refine zdq ?_ GE858.out | refine zdq ?_ GE859.out) | exact HB.out))) : w.heap.size ≤ gb860)); have n6_ := zA ((by rw [hg]; exact Nat.ne_of_lt (blk_lt (g := gb858) (o := .cells #[.bool a0_0, .slice A0_1 l0_1.length c0_1] 99 (0, 0)) (by (with_reducible repeat (first | refine zgq ?_ _ | refine zhq ?_ | refine ziq ?_ _)); exact BK858.out)) : gb858 ≠ gb860)); have n7_ := zA ((by rw [hg]; exact Nat.ne_of_gt (blk_lt (g := gb858) (o := .cells #[.bool a0_0, .slice A0_1 l0_1.length c0_1] 99 (0, 0)) (by (with_reducible repeat (first | refine zgq ?_ _ | refine zhq ?_ | refine ziq ?_ _)); exact BK858.out)) : gb860 ≠ gb858)); have n8_ := zA ((by rw [hg]; exact Nat.ne_of_lt (blk_lt (g := gb859) (o := .cells #[.bool a1_0, .slice A1_1 l1_1.length c1_1] 99 (0, 0)) (by (with_reducible repeat (first | refine zgq ?_ _ | refine zhq ?_ | refine ziq ?_ _)); exact BK859.out)) : gb859 ≠ gb860)); have n9_ := zA ((by rw [hg]; exact Nat.ne_of_gt (blk_lt (g := gb859) (o := .cells #[.bool a1_0, .slice A1_1 l1_1.length c1_1] 99 (0, 0)) (by (with_reducible repeat (first | refine zgq ?_ _ | refine zhq ?_ | refine ziq ?_ _)); exact BK859.out)) : gb860 ≠ gb859)); clear BK858; clear BK859; clear HB; have BK858 := n0_; have BK859 := n1_; have HB := n2_; have BK860 := n3_; have GW860 := n4_; have GE860 := n5_; have NB858_860 := n6_; have NB860_858 := n7_; have NB859_860 := n8_; have NB860_859 := n9_; clear n0_ n1_ n2_ n3_ n4_ n5_ n6_ n7_ n8_ n9_; clear hb hbox hg; have hnb39 := NB858_859.out; have hnc39 := NB859_858.out; have hnb40 := NB858_860.out; have hnc40 := NB860_858.out; have hcz41_0 : w38.cell? ⟨gb858, 0, none⟩ = some (.bool a0_0) := (zmq BK858.out 0).trans rfl; have hcz41_1 : w38.cell? ⟨gb858, 1, none⟩ = some (.slice A0_1 l0_1.length c0_1) := (zmq BK858.out 1).trans rfl; have hfz41_0 := znq BK858.out 0; have hfz41_1 := znq BK858.out 1; have hnb42 := NB859_860.out; have hnc42 := NB860_859.out; have hcz43_0 : w38.cell? ⟨gb859, 0, none⟩ = some (.bool a1_0) := (zmq BK859.out 0).trans rfl; have hcz43_1 : w38.cell? ⟨gb859, 1, none⟩ = some (.slice A1_1 l1_1.length c1_1) := (zmq BK859.out 1).trans rfl; have hfz43_0 := znq BK859.out 0; have hfz43_1 := znq BK859.out 1) | ((with_reducible refine zoq (f := 48) rfl ?_); refine goesL_ (some 22) rfl rfl Try.func48 (by kernel_rfl) rfl #[.slice A0_1 l0_1.length c0_1, .slice A1_1 l1_1.length c1_1] rfl (by (try simp only [List.map_toArray, List.map_cons, List.map_nil]); first | done | rfl | (simp only [List.length_drop, List.length_take]; rfl)) ?_; (with_reducible refine (tabardref1_Cmp.calls k _ _ l0_1 _ _ l1_1 t864 _ ?side1 ?side2 ?side3 ?side4 A18.out).mono ?_); (case side1 => repeat (first | exact (Kd.C_below HR0_1.out HB.out) | (with_reducible refine Kd.C_alloc ?_ _) | (with_reducible refine Kd.C_drewN ?_ _) | (with_reducible refine Kd.C_drew ?_))); (case side2 => exact HC0_1.out); (case side3 => repeat (first | exact (Kd.C_below HR1_1.out HB.out) | (with_reducible refine Kd.C_alloc ?_ _) | (with_reducible refine Kd.C_drewN ?_ _) | (with_reducible refine Kd.C_drew ?_))); (case side4 => exact HC1_1.out); rintro e w44 ⟨rfl, hb⟩; refine ⟨_, rfl, ?_⟩; have n0_ := zA (zlq (g := gb858) (o := .cells #[.bool a0_0, .slice A0_1 l0_1.length c0_1] 99 (0, 0)) (by (with_reducible repeat (first | refine zgq ?_ _ | refine zhq ?_ | refine ziq ?_ _)); exact BK858.out) hb); have n1_ := zA (zlq (g := gb859) (o := .cells #[.bool a1_0, .slice A1_1 l1_1.length c1_1] 99 (0, 0)) (by (with_reducible repeat (first | refine zgq ?_ _ | refine zhq ?_ | refine ziq ?_ _)); exact BK859.out) hb); have n2_ := zA (zlq (g := gb860) (o := .cells #[.bool false, .slice none 0 0] 99 (0, 0)) (by (with_reducible repeat (first | refine zgq ?_ _ | refine zhq ?_ | refine ziq ?_ _)); exact BK860.out) hb); have n3_ := zA (zeq (by repeat (first | (with_reducible first | exact HB.out | apply zaq | apply zbq | apply zcq | refine zdq ?_ GE858.out | refine zdq ?_ GE859.out | refine zdq ?_ GE860.out) | exact HB.out)) hb); clear BK858; clear BK859; clear BK860; clear HB; have BK858 := n0_; have BK859 := n1_; have BK860 := n2_; have HB := n3_; clear n0_ n1_ n2_ n3_; (try clear hb); (try clear hb2); (try clear hk); (try clear hi)))
   have n0_ := zA (zhq BK858.out)
   have n1_ := zA (zhq BK859.out)
   have n2_ := zA (zhq BK860.out)
   have n3_ := zA (zcq HB.out)
   clear BK858
   clear BK859
   clear BK860
   clear HB
   have BK858 := n0_
   have BK859 := n1_
   have BK860 := n2_
   have HB := n3_
   clear n0_ n1_ n2_ n3_
   refine start_ (n := 9) (S := fun w' => w'.cell? ⟨gb859, 0, none⟩ = some (.bool a1_0) ∧ w'.cell? ⟨gb859, 1, none⟩ = some (.slice A1_1 l1_1.length c1_1) ∧ w'.cell? ⟨gb858, 0, none⟩ = some (.bool a0_0) ∧ w'.cell? ⟨gb858, 1, none⟩ = some (.slice A0_1 l0_1.length c0_1)) (ds := []) #[false, false, false, false, false, false, false, false, false] (by kernel_rfl) rfl rfl ⟨(zmq BK859.out 0).trans rfl, (zmq BK859.out 1).trans rfl, (zmq BK858.out 0).trans rfl, (zmq BK858.out 1).trans rfl⟩ (fun hHeld => ?_); refine with_tabW tabardref4_Plus.tab5 tabardref4_Plus.bits5 (fun HT_ HW_ => ?_)
   generalize w44.drew = w45 at BK858 BK859 BK860 HB hHeld ⊢
   refine pure_ (i := 0) (N := some 32) (v := ?_) (a' := ?_) #[true, false, false, false, false, false, false, false, false] rfl rfl (any_of HT_.out (by kernel_rfl)) (fun _ _ _ h => h) (Or.inl ⟨by rfl, ?_⟩) ?_ ?_
   rotate_left
   ·
    intro w'
    go_simp
    with_reducible rfl
   rotate_left
   ·
    simp only [Act.put, List.setIfInBounds_toArray, List.set_cons_zero, List.set_cons_succ, i64_w, i32_w]
    rfl
   refine pure_ (i := 2) (N := some 34) (v := ?_) (a' := ?_) #[true, false, true, false, false, false, false, false, false] rfl rfl (any_of HT_.out (by kernel_rfl)) (fun _ _ _ h => h) (Or.inl ⟨by rfl, ?_⟩) ?_ ?_
   rotate_left
   ·
    intro w'
    go_simp
    with_reducible rfl
   rotate_left
   ·
    simp only [Act.put, List.setIfInBounds_toArray, List.set_cons_zero, List.set_cons_succ, i64_w, i32_w]
    rfl
   refine pure_ (i := 4) (N := some 36) (v := ?_) (a' := ?_) #[true, false, true, false, true, false, false, false, false] rfl rfl (any_of HT_.out (by kernel_rfl)) (fun _ _ _ h => h) (Or.inl ⟨by rfl, ?_⟩) ?_ ?_
   rotate_left
   ·
    intro w'
    go_simp
    with_reducible rfl
   rotate_left
   ·
    simp only [Act.put, List.setIfInBounds_toArray, List.set_cons_zero, List.set_cons_succ, i64_w, i32_w]
    rfl
   refine take_ (i := 1) (N := some 33) (v := ?_) (a' := ?_) #[true, true, true, false, true, false, false, false, false] rfl rfl (take_ofW HT_.out HW_.out (by kernel_rfl)) (fun _ _ _ h => h) (Or.inl ⟨by rfl, ?_⟩) hHeld ?_ ?_
   rotate_left
   ·
    rintro w' ⟨s0, s1, s2, s3⟩
    go_simp
    with_reducible rfl
   rotate_left
   ·
    simp only [Act.put, List.setIfInBounds_toArray, List.set_cons_zero, List.set_cons_succ, i64_w, i32_w]
    rfl
   refine take_ (i := 3) (N := some 35) (v := ?_) (a' := ?_) #[true, true, true, true, true, false, false, false, false] rfl rfl (take_ofW HT_.out HW_.out (by kernel_rfl)) (fun _ _ _ h => h) (Or.inl ⟨by rfl, ?_⟩) hHeld ?_ ?_
   rotate_left
   ·
    rintro w' ⟨s0, s1, s2, s3⟩
    go_simp
    with_reducible rfl
   rotate_left
   ·
    simp only [Act.put, List.setIfInBounds_toArray, List.set_cons_zero, List.set_cons_succ, i64_w, i32_w]
    rfl
   refine take_ (i := 5) (N := some 37) (v := ?_) (a' := ?_) #[true, true, true, true, true, true, false, false, false] rfl rfl (take_ofW HT_.out HW_.out (by kernel_rfl)) (fun _ _ _ h => h) (Or.inl ⟨by rfl, ?_⟩) hHeld ?_ ?_
   rotate_left
   ·
    rintro w' ⟨s0, s1, s2, s3⟩
    go_simp
    with_reducible rfl
   rotate_left
   ·
    simp only [Act.put, List.setIfInBounds_toArray, List.set_cons_zero, List.set_cons_succ, i64_w, i32_w]
    rfl
   refine one_ (i := 6) (N := some 38) #[true, true, true, true, true, true, true, false, false] rfl rfl (one_of HT_.out (by kernel_rfl)) (by decide) (fun K hK => ?_)
   refine goes_ Try.func84 (by kernel_rfl) rfl #[.slice A1_1 l1_1.length c1_1, .slice A0_1 l0_1.length c0_1] (by rfl) rfl rfl (by (try simp only [List.map_toArray, List.map_cons, List.map_nil]); first | done | rfl | (simp only [List.length_drop, List.length_take]; rfl)) ?_
   with_reducible refine (tabardref1_Less.calls k _ _ l1_1 _ _ l0_1 t868 _ ?side1 ?side2 ?side3 ?side4 A35.out).mono ?_
   (case side1 => repeat (first | exact (Kd.C_below HR1_1.out HB.out) | (with_reducible refine Kd.C_alloc ?_ _) | (with_reducible refine Kd.C_drewN ?_ _) | (with_reducible refine Kd.C_drew ?_)))
   (case side2 => exact HC1_1.out)
   (case side3 => repeat (first | exact (Kd.C_below HR0_1.out HB.out) | (with_reducible refine Kd.C_alloc ?_ _) | (with_reducible refine Kd.C_drewN ?_ _) | (with_reducible refine Kd.C_drew ?_)))
   (case side4 => exact HC0_1.out)
   rintro e w46 ⟨v869, rfl, ho0, hb⟩
   refine ⟨_, rfl, ?_⟩
   have n0_ := zA (Kd.R_lower ho0 (zfq (by repeat (first | (with_reducible first | exact HB.out | apply zaq | apply zbq | apply zcq | refine zdq ?_ GE858.out | refine zdq ?_ GE859.out | refine zdq ?_ GE860.out) | exact HB.out))))
   have n1_ := zA (zlq (g := gb858) (o := .cells #[.bool a0_0, .slice A0_1 l0_1.length c0_1] 99 (0, 0)) (by (with_reducible repeat (first | refine zgq ?_ _ | refine zhq ?_ | refine ziq ?_ _)); exact BK858.out) hb)
   have n2_ := zA (zlq (g := gb859) (o := .cells #[.bool a1_0, .slice A1_1 l1_1.length c1_1] 99 (0, 0)) (by (with_reducible repeat (first | refine zgq ?_ _ | refine zhq ?_ | refine ziq ?_ _)); exact BK859.out) hb)
   have n3_ := zA (zlq (g := gb860) (o := .cells #[.bool false, .slice none 0 0] 99 (0, 0)) (by (with_reducible repeat (first | refine zgq ?_ _ | refine zhq ?_ | refine ziq ?_ _)); exact BK860.out) hb)
   have n4_ := zA (zeq (by repeat (first | (with_reducible first | exact HB.out | apply zaq | apply zbq | apply zcq | refine zdq ?_ GE858.out | refine zdq ?_ GE859.out | refine zdq ?_ GE860.out) | exact HB.out)) hb)
   clear BK858
   clear BK859
   clear BK860
   clear HB
   have HO870 := n0_
   have BK858 := n1_
   have BK859 := n2_
   have BK860 := n3_
   have HB := n4_
   clear n0_ n1_ n2_ n3_ n4_
   (try clear hb)
   (try clear hb2)
   (try clear hk)
   (try clear hi)
   (try clear ho0)
   obtain ⟨Ao47, co47, eo47⟩ := Kd.R_slice HO870.out
   (first | subst eo47 | (injection eo47 with f1_ f2_ f3_; have f4_ := f1_.symm; have f5_ := f3_.symm; clear f1_ f2_ f3_; subst f4_; subst f5_))
   refine hK.out _ _ ⟨(zmq BK859.out 0).trans rfl, (zmq BK859.out 1).trans rfl, (zmq BK858.out 0).trans rfl, (zmq BK858.out 1).trans rfl⟩ (fun hHeld => ?_)
   clear hK K
   refine norm_ (a' := ?_) ?_ ?_
   rotate_left
   ·
    show Act.put _ (some 38) _ = _
    simp only [Act.put, List.setIfInBounds_toArray, List.set_cons_zero, List.set_cons_succ, i64_w, i32_w]
    rfl
   refine pure_ (i := 7) (N := some 39) (v := ?_) (a' := ?_) #[true, true, true, true, true, true, true, true, false] rfl rfl (any_of HT_.out (by kernel_rfl)) (fun _ _ _ h => h) (Or.inl ⟨by rfl, ?_⟩) ?_ ?_
   rotate_left
   ·
    intro w'
    go_simp
    with_reducible rfl
   rotate_left
   ·
    simp only [Act.put, List.setIfInBounds_toArray, List.set_cons_zero, List.set_cons_succ, i64_w, i32_w]
    rfl
   refine one_ (i := 8) (N := none) #[true, true, true, true, true, true, true, true, true] rfl rfl (one_of HT_.out (by kernel_rfl)) (by decide) (fun K hK => ?_)
   have hs48 : w46.cell? ⟨gb860, 0, none⟩ = some (.bool false) := (zmq BK860.out 0).trans rfl
   have hfs48 := znq BK860.out 0
   have hns48_0 := NB858_860.out
   have hns48_1 := NB859_860.out
   have hms48_0 := NB860_858.out
   have hms48_1 := NB860_859.out
   have hs49 : w46.cell? ⟨gb860, 1, none⟩ = some (.slice none 0 0) := (zmq BK860.out 1).trans rfl
   have hfs49 := znq BK860.out 1
   have hns49_0 := NB858_860.out
   have hns49_1 := NB859_860.out
   have hms49_0 := NB860_858.out
   have hms49_1 := NB860_859.out
   refine skip_ (w1 := ?_) (by rfl) rfl ?_ ?_
   rotate_left
   ·
    go_simp
    rfl
   refine hK.out _ _ ⟨((cell_far (p := ⟨gb860, _, none⟩) NB859_860.out _).trans (((cell_far (p := ⟨gb860, _, none⟩) NB859_860.out _).trans (hHeld.1)))), ((cell_far (p := ⟨gb860, _, none⟩) NB859_860.out _).trans (((cell_far (p := ⟨gb860, _, none⟩) NB859_860.out _).trans (hHeld.2.1)))), ((cell_far (p := ⟨gb860, _, none⟩) NB858_860.out _).trans (((cell_far (p := ⟨gb860, _, none⟩) NB858_860.out _).trans (hHeld.2.2.1)))), ((cell_far (p := ⟨gb860, _, none⟩) NB858_860.out _).trans (((cell_far (p := ⟨gb860, _, none⟩) NB858_860.out _).trans (hHeld.2.2.2))))⟩ (fun hHeld => ?_)
   clear hK K
   refine done_ (done_of HT_.out (by kernel_rfl)) ?_
   try go_wp2
   refine bodyPost_ret (results_cell_row rfl _ _ gb860 99 #[.bool a1_0, .slice Ao47 t868.length co47] (0, 0) _ rfl (by (with_reducible repeat (first | refine zgq ?_ _ | refine zhq ?_ | refine ziq ?_ _)); refine zkq (cs := #[.bool a1_0, .slice none 0 0]) ?_ 1 _ rfl; (with_reducible repeat (first | refine zgq ?_ _ | refine zhq ?_ | refine ziq ?_ _)); refine zkq (cs := #[.bool false, .slice none 0 0]) ?_ 0 _ rfl; (with_reducible repeat (first | refine zgq ?_ _ | refine zhq ?_ | refine ziq ?_ _)); exact BK860.out) Try.underlying99 rfl (by kernel_rfl)) rfl ?_
   exact ⟨_, by first | rfl | (simp [errW_none, errW_some] <;> rfl) | (simp [*, errW_none, errW_some] <;> rfl), by (with_reducible repeat (first | apply Kd.R_alloc | apply Kd.R_drewN | apply Kd.R_drew)); exact Kd.R_mono (Kd.R_far (p := ⟨gb860, 1, none⟩) (Kd.R_far (p := ⟨gb860, 0, none⟩) (Kd.R_types HO870.out BK860.out (by decide)) (fun _ hk => hk.2) (.bool a1_0)) (fun _ hk => hk.2) (.slice Ao47 t868.length co47)) (fun _ hk => trivial), by repeat (first | (with_reducible first | exact HB.out | apply zaq | apply zbq | apply zcq | refine zdq ?_ GE858.out | refine zdq ?_ GE859.out | refine zdq ?_ GE860.out) | exact HB.out)⟩

end Go.Proofs.Ytbejjlecpcphoaa.P
