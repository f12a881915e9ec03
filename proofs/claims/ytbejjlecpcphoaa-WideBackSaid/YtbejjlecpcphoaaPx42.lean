-- Written by a program of this session's (a turned print), not by hand.
import Derived.Test.YtbejjlecpcphoaaPx0
import Derived.Test.YtbejjlecpcphoaaPx1
import Derived.Test.YtbejjlecpcphoaaPx3
import Derived.Test.YtbejjlecpcphoaaPx5
import Derived.Test.YtbejjlecpcphoaaPx6
import Derived.Test.YtbejjlecpcphoaaPx28
import Derived.Test.YtbejjlecpcphoaaPx30
import Derived.Test.YtbejjlecpcphoaaPx31
import Derived.Test.YtbejjlecpcphoaaPx32
namespace Go.Proofs.Ytbejjlecpcphoaa.P
open Go.RowKit Go.Proofs.YtbejjlecpcphoaaW.PrintWords Go.Proofs.YtbejjlecpcphoaaW.PrintLast Go.Proofs.YtbejjlecpcphoaaW.PrintMore
attribute [local go_sem] max2_int min2_int max_two min_two max_three min_three max_four min_four   -- for this text's walks alone
set_option linter.unusedVariables false
set_option linter.unusedSimpArgs false

attribute [local go_sem high] eqA24
/-! ### tabardlaw2_WideBack: function 12 -/
mutual
def tabardlaw2_WideBack.j0 : Nat → Int → Bool → Int → Int → Int → Int → Option (Bool)
 | 0, _, _, _, _, _, _ => none
 | k + 1, x2, x45, x734000, x734001, x735000, x735001 => if x45 = true then (none) else (if x735001 > 0 then ((wide_Div.f k x734000 x734001 x735001).bind fun bt744 => ((wide_Times.f bt744.1 bt744.2.1 x735001).bind fun bt749 => ((wide_Low.f bt749.1 bt749.2.1 bt749.2.2).bind fun bt753 => ((wide_Add.f bt753.1 bt753.2 0 bt744.2.2.1).bind fun bt755 => (if bt749.1 = 0 then (if bt755.2.2 = true then (none) else (if (!(bt755.1 == x734000) || (!(bt755.2.1 == x734001))) = true then (none) else (if bt744.2.2.1 ≥ x735001 then (none) else (tabardlaw2_WideBack.j1 k x2 x734000 x734001)))) else (none)))))) else (tabardlaw2_WideBack.j1 k x2 x734000 x734001))
def tabardlaw2_WideBack.j1 : Nat → Int → Int → Int → Option (Bool)
 | 0, _, _, _ => none
 | k + 1, x2, x734000, x734001 => if (Int.tmod x2 64) < 0 then (tabardlaw2_WideBack.j2 k (wrap64 (-(Int.tmod x2 64))) x734000 x734001) else (tabardlaw2_WideBack.j2 k (Int.tmod x2 64) x734000 x734001)
def tabardlaw2_WideBack.j2 : Nat → Int → Int → Int → Option (Bool)
 | 0, _, _, _ => none
 | k + 1, x18, x734000, x734001 => if 0 ≤ (IntKind.u64.wrap (x18)) then ((wide_Times.f x734000 x734001 (shl .u64 1 (IntKind.u64.wrap (x18)))).bind fun bt759 => ((wide_Drop.f k bt759.1 bt759.2.1 bt759.2.2 x18).bind fun bt762 => ((wide_Low.f bt762.1 bt762.2.1 bt762.2.2.1).bind fun bt767 => (if (!(bt767.1 == x734000) || (!(bt767.2 == x734001))) = true then (tabardlaw2_WideBack.j3 k x18 true x734000 x734001) else (if bt762.1 = 0 then (tabardlaw2_WideBack.j3 k x18 bt762.2.2.2 x734000 x734001) else (tabardlaw2_WideBack.j3 k x18 true x734000 x734001)))))) else (none)
def tabardlaw2_WideBack.j3 : Nat → Int → Bool → Int → Int → Option (Bool)
 | 0, _, _, _, _ => none
 | k + 1, x18, x113, x734000, x734001 => if x113 = true then (none) else ((wide_Len.f k x734000 x734001).bind fun t769 => (if (wrap64 (t769 + x18)) > 128 then (some true) else ((wide_Shl.f x734000 x734001 x18).bind fun bt770 => ((wide_Shr.f k bt770.1 bt770.2 x18).bind fun bt772 => (if (bt772.1 == x734000 && (bt772.2.1 == x734001)) = true then (some (!bt772.2.2)) else (none))))))
end
def tabardlaw2_WideBack.f (k : Nat) (a0_0 : Int) (a0_1 : Int) (a1_0 : Int) (a1_1 : Int) (a2 : Int) : Option (Bool) := (tabardlaw2_shown.f k).bind fun t735 => (if t735 = true then ((wide_Add.f a0_0 a0_1 a1_0 a1_1).bind fun bt736 => ((wide_Sub.f bt736.1 bt736.2.1 a1_0 a1_1).bind fun bt740 => (if (!(bt740.1 == a0_0) || (!(bt740.2.1 == a0_1))) = true then (tabardlaw2_WideBack.j0 k a2 true a0_0 a0_1 a1_0 a1_1) else (tabardlaw2_WideBack.j0 k a2 (bt736.2.2 != bt740.2.2) a0_0 a0_1 a1_0 a1_1)))) else (none))
theorem tabardlaw2_WideBack.mono_l : ∀ k, (∀ y0 y1 y2 y3 y4 y5, LeO (tabardlaw2_WideBack.j0 k y0 y1 y2 y3 y4 y5) (tabardlaw2_WideBack.j0 (k + 1) y0 y1 y2 y3 y4 y5)) ∧ (∀ y0 y1 y2, LeO (tabardlaw2_WideBack.j1 k y0 y1 y2) (tabardlaw2_WideBack.j1 (k + 1) y0 y1 y2)) ∧ (∀ y0 y1 y2, LeO (tabardlaw2_WideBack.j2 k y0 y1 y2) (tabardlaw2_WideBack.j2 (k + 1) y0 y1 y2)) ∧ (∀ y0 y1 y2 y3, LeO (tabardlaw2_WideBack.j3 k y0 y1 y2 y3) (tabardlaw2_WideBack.j3 (k + 1) y0 y1 y2 y3))
 | 0 => ⟨fun _ _ _ _ _ _ r h => by simp [tabardlaw2_WideBack.j0] at h, fun _ _ _ r h => by simp [tabardlaw2_WideBack.j1] at h, fun _ _ _ r h => by simp [tabardlaw2_WideBack.j2] at h, fun _ _ _ _ r h => by simp [tabardlaw2_WideBack.j3] at h⟩
 | k + 1 => by
  obtain ⟨ih0, ih1, ih2, ih3⟩ := tabardlaw2_WideBack.mono_l k
  refine ⟨?_, ?_, ?_, ?_⟩
  ·
   intro y0 y1 y2 y3 y4 y5
   unfold tabardlaw2_WideBack.j0
   repeat' first
   | (with_reducible exact ih0 _ _ _ _ _ _)
   | (with_reducible exact ih1 _ _ _)
   | (with_reducible exact ih2 _ _ _)
   | (with_reducible exact ih3 _ _ _ _)
   | (with_reducible exact tabardlaw2_shown.mono _)
   | (with_reducible exact wide_Div.mono _ _ _ _)
   | (with_reducible exact wide_Drop.mono _ _ _ _ _)
   | (with_reducible exact wide_Len.mono _ _ _)
   | (with_reducible exact wide_Shr.mono _ _ _ _)
   | (with_reducible exact LeO.refl _)
   | (with_reducible exact LeO.none _)
   | (with_reducible refine LeO.ite ?_ ?_)
   | (with_reducible refine LeO.bind ?_ (fun _ => ?_))
   | exact ih0 _ _ _ _ _ _
   | exact ih1 _ _ _
   | exact ih2 _ _ _
   | exact ih3 _ _ _ _
   | exact tabardlaw2_shown.mono _
   | exact wide_Div.mono _ _ _ _
   | exact wide_Drop.mono _ _ _ _ _
   | exact wide_Len.mono _ _ _
   | exact wide_Shr.mono _ _ _ _
   | exact LeO.none _
   | refine LeO.ite ?_ ?_
   | refine LeO.bind ?_ (fun _ => ?_)
  ·
   intro y0 y1 y2
   unfold tabardlaw2_WideBack.j1
   repeat' first
   | (with_reducible exact ih0 _ _ _ _ _ _)
   | (with_reducible exact ih1 _ _ _)
   | (with_reducible exact ih2 _ _ _)
   | (with_reducible exact ih3 _ _ _ _)
   | (with_reducible exact tabardlaw2_shown.mono _)
   | (with_reducible exact wide_Div.mono _ _ _ _)
   | (with_reducible exact wide_Drop.mono _ _ _ _ _)
   | (with_reducible exact wide_Len.mono _ _ _)
   | (with_reducible exact wide_Shr.mono _ _ _ _)
   | (with_reducible exact LeO.refl _)
   | (with_reducible exact LeO.none _)
   | (with_reducible refine LeO.ite ?_ ?_)
   | (with_reducible refine LeO.bind ?_ (fun _ => ?_))
   | exact ih0 _ _ _ _ _ _
   | exact ih1 _ _ _
   | exact ih2 _ _ _
   | exact ih3 _ _ _ _
   | exact tabardlaw2_shown.mono _
   | exact wide_Div.mono _ _ _ _
   | exact wide_Drop.mono _ _ _ _ _
   | exact wide_Len.mono _ _ _
   | exact wide_Shr.mono _ _ _ _
   | exact LeO.none _
   | refine LeO.ite ?_ ?_
   | refine LeO.bind ?_ (fun _ => ?_)
  ·
   intro y0 y1 y2
   unfold tabardlaw2_WideBack.j2
   repeat' first
   | (with_reducible exact ih0 _ _ _ _ _ _)
   | (with_reducible exact ih1 _ _ _)
   | (with_reducible exact ih2 _ _ _)
   | (with_reducible exact ih3 _ _ _ _)
   | (with_reducible exact tabardlaw2_shown.mono _)
   | (with_reducible exact wide_Div.mono _ _ _ _)
   | (with_reducible exact wide_Drop.mono _ _ _ _ _)
   | (with_reducible exact wide_Len.mono _ _ _)
   | (with_reducible exact wide_Shr.mono _ _ _ _)
   | (with_reducible exact LeO.refl _)
   | (with_reducible exact LeO.none _)
   | (with_reducible refine LeO.ite ?_ ?_)
   | (with_reducible refine LeO.bind ?_ (fun _ => ?_))
   | exact ih0 _ _ _ _ _ _
   | exact ih1 _ _ _
   | exact ih2 _ _ _
   | exact ih3 _ _ _ _
   | exact tabardlaw2_shown.mono _
   | exact wide_Div.mono _ _ _ _
   | exact wide_Drop.mono _ _ _ _ _
   | exact wide_Len.mono _ _ _
   | exact wide_Shr.mono _ _ _ _
   | exact LeO.none _
   | refine LeO.ite ?_ ?_
   | refine LeO.bind ?_ (fun _ => ?_)
  ·
   intro y0 y1 y2 y3
   unfold tabardlaw2_WideBack.j3
   repeat' first
   | (with_reducible exact ih0 _ _ _ _ _ _)
   | (with_reducible exact ih1 _ _ _)
   | (with_reducible exact ih2 _ _ _)
   | (with_reducible exact ih3 _ _ _ _)
   | (with_reducible exact tabardlaw2_shown.mono _)
   | (with_reducible exact wide_Div.mono _ _ _ _)
   | (with_reducible exact wide_Drop.mono _ _ _ _ _)
   | (with_reducible exact wide_Len.mono _ _ _)
   | (with_reducible exact wide_Shr.mono _ _ _ _)
   | (with_reducible exact LeO.refl _)
   | (with_reducible exact LeO.none _)
   | (with_reducible refine LeO.ite ?_ ?_)
   | (with_reducible refine LeO.bind ?_ (fun _ => ?_))
   | exact ih0 _ _ _ _ _ _
   | exact ih1 _ _ _
   | exact ih2 _ _ _
   | exact ih3 _ _ _ _
   | exact tabardlaw2_shown.mono _
   | exact wide_Div.mono _ _ _ _
   | exact wide_Drop.mono _ _ _ _ _
   | exact wide_Len.mono _ _ _
   | exact wide_Shr.mono _ _ _ _
   | exact LeO.none _
   | refine LeO.ite ?_ ?_
   | refine LeO.bind ?_ (fun _ => ?_)
theorem tabardlaw2_WideBack.mono : ∀ a0 a1 a2 a3 a4 k, LeO (tabardlaw2_WideBack.f k a0 a1 a2 a3 a4) (tabardlaw2_WideBack.f (k + 1) a0 a1 a2 a3 a4) := by
 intro a0 a1 a2 a3 a4 k
 obtain ⟨ih0, ih1, ih2, ih3⟩ := tabardlaw2_WideBack.mono_l k
 unfold tabardlaw2_WideBack.f
 repeat' first
   | (with_reducible exact ih0 _ _ _ _ _ _)
   | (with_reducible exact ih1 _ _ _)
   | (with_reducible exact ih2 _ _ _)
   | (with_reducible exact ih3 _ _ _ _)
   | (with_reducible exact tabardlaw2_shown.mono _)
   | (with_reducible exact wide_Div.mono _ _ _ _)
   | (with_reducible exact wide_Drop.mono _ _ _ _ _)
   | (with_reducible exact wide_Len.mono _ _ _)
   | (with_reducible exact wide_Shr.mono _ _ _ _)
   | (with_reducible exact LeO.refl _)
   | (with_reducible exact LeO.none _)
   | (with_reducible refine LeO.ite ?_ ?_)
   | (with_reducible refine LeO.bind ?_ (fun _ => ?_))
   | exact ih0 _ _ _ _ _ _
   | exact ih1 _ _ _
   | exact ih2 _ _ _
   | exact ih3 _ _ _ _
   | exact tabardlaw2_shown.mono _
   | exact wide_Div.mono _ _ _ _
   | exact wide_Drop.mono _ _ _ _ _
   | exact wide_Len.mono _ _ _
   | exact wide_Shr.mono _ _ _ _
   | exact LeO.none _
   | refine LeO.ite ?_ ?_
   | refine LeO.bind ?_ (fun _ => ?_)
def tabardlaw2_WideBack.T18 : Bool × List (List Nat × List Nat) := (true, [([], []), ([0], [0]), ([], []), ([1, 2], [1, 2]), ([3, 1], [3]), ([4], [4]), ([5, 4], [4, 5]), ([6, 4], [4, 6]), ([4, 7], [4, 7]), ([8, 4], [8]), ([9], [9]), ([9, 10], [9, 10])])
def tabardlaw2_WideBack.B18 : List Nat := [0, 1, 0, 7, 15, 31, 63, 127, 255, 511, 1023, 2047]
theorem tabardlaw2_WideBack.tab18 : rtab .any (opsOf Try.f12 18) = tabardlaw2_WideBack.T18 := by kernel_rfl
theorem tabardlaw2_WideBack.bits18 : waitsOk tabardlaw2_WideBack.T18.2 tabardlaw2_WideBack.B18 = true := by kernel_rfl
set_option maxHeartbeats 8000000 in
set_option maxRecDepth 100000 in
theorem tabardlaw2_WideBack.calls (k : Nat) (a0_0 : Int) (a0_1 : Int) (a1_0 : Int) (a1_1 : Int) (a2 : Int) (r : Bool) (w : World) (h : tabardlaw2_WideBack.f k a0_0 a0_1 a1_0 a1_1 a2 = some r) :
  Calls Try.prog 12 #[.agg #[.int .u64 a0_0, .int .u64 a0_1], .agg #[.int .u64 a1_0, .int .u64 a1_1], .int .i64 a2] w fun e w' => e = .returned (.bool r) ∧ Below w.heap.size w w' := by
 have hu24 := Try.underlying24
 have hu69 := Try.underlying69
 have HB := zA (Below.refl w.heap.size w)
 have H : ((tabardlaw2_shown.f k).bind fun t735 => (if t735 = true then ((wide_Add.f a0_0 a0_1 a1_0 a1_1).bind fun bt736 => ((wide_Sub.f bt736.1 bt736.2.1 a1_0 a1_1).bind fun bt740 => (if (!(bt740.1 == a0_0) || (!(bt740.2.1 == a0_1))) = true then (tabardlaw2_WideBack.j0 k a2 true a0_0 a0_1 a1_0 a1_1) else (tabardlaw2_WideBack.j0 k a2 (bt736.2.2 != bt740.2.2) a0_0 a0_1 a1_0 a1_1)))) else (none))) = some r := h
 clear h
 replace H := Option.bind_eq_some_iff.mp H
 obtain ⟨t735, A40, H⟩ := H
 replace H : (if t735 = true then ((wide_Add.f a0_0 a0_1 a1_0 a1_1).bind fun bt736 => ((wide_Sub.f bt736.1 bt736.2.1 a1_0 a1_1).bind fun bt740 => (if (!(bt740.1 == a0_0) || (!(bt740.2.1 == a0_1))) = true then (tabardlaw2_WideBack.j0 k a2 true a0_0 a0_1 a1_0 a1_1) else (tabardlaw2_WideBack.j0 k a2 (bt736.2.2 != bt740.2.2) a0_0 a0_1 a1_0 a1_1)))) else (none)) = some r := H
 have A4 := zA A40
 clear A40
 by_cases c5 : t735 = true
 ·
  subst c5
  have H1 : ((wide_Add.f a0_0 a0_1 a1_0 a1_1).bind fun bt736 => ((wide_Sub.f bt736.1 bt736.2.1 a1_0 a1_1).bind fun bt740 => (if (!(bt740.1 == a0_0) || (!(bt740.2.1 == a0_1))) = true then (tabardlaw2_WideBack.j0 k a2 true a0_0 a0_1 a1_0 a1_1) else (tabardlaw2_WideBack.j0 k a2 (bt736.2.2 != bt740.2.2) a0_0 a0_1 a1_0 a1_1)))) = some r := by rw [if_pos rfl] at H; exact H
  clear H
  have H := H1
  clear H1
  replace H := Option.bind_eq_some_iff.mp H
  obtain ⟨⟨t736, t737, t738⟩, A60, H⟩ := H
  replace H : ((wide_Sub.f t736 t737 a1_0 a1_1).bind fun bt740 => (if (!(bt740.1 == a0_0) || (!(bt740.2.1 == a0_1))) = true then (tabardlaw2_WideBack.j0 k a2 true a0_0 a0_1 a1_0 a1_1) else (tabardlaw2_WideBack.j0 k a2 (t738 != bt740.2.2) a0_0 a0_1 a1_0 a1_1))) = some r := H
  have A6 := zA A60
  clear A60
  replace H := Option.bind_eq_some_iff.mp H
  obtain ⟨⟨t740, t741, t742⟩, A70, H⟩ := H
  replace H : (if (!(t740 == a0_0) || (!(t741 == a0_1))) = true then (tabardlaw2_WideBack.j0 k a2 true a0_0 a0_1 a1_0 a1_1) else (tabardlaw2_WideBack.j0 k a2 (t738 != t742) a0_0 a0_1 a1_0 a1_1)) = some r := H
  have A7 := zA A70
  clear A70
  have HC8 := zA H
  clear H
  go_enter Try.func12, Try.ntmps12
  go_upto_region 6 with (first | ((with_reducible refine zpq (N := 3) rfl ?_); refine zqq ?hg (N := 3) ?hd (cs := #[.int .u64 a0_0, .int .u64 a0_1]) (t := 24) ?hr ?_; (case hd => rfl); (case hg => rfl); (case hr => first | (go_simp; done) | (go_simp; rfl)); intro gb733 hg w9 hbox hb; have n0_ := zA (zeq (by repeat (first | (with_reducible first | exact HB.out | apply zaq | apply zbq | apply zcq) | exact HB.out)) hb); have n1_ := zA (hbox); have n2_ := zA ((by rw [hg]; exact (zfq (by repeat (first | (with_reducible first | exact HB.out | apply zaq | apply zbq | apply zcq) | exact HB.out))) : w.heap.size ≤ gb733)); have n3_ := zA ((by rw [hg]; exact (zfq (by repeat (first | (with_reducible first | exact HB.out | apply zaq | apply zbq | apply zcq) | exact HB.out))) : w.heap.size ≤ gb733)); clear HB; have HB := n0_; have BK733 := n1_; have GW733 := n2_; have GE733 := n3_; clear n0_ n1_ n2_ n3_; clear hb hbox hg) | ((with_reducible refine zpq (N := 4) rfl ?_); refine zqq ?hg (N := 4) ?hd (cs := #[.int .u64 a1_0, .int .u64 a1_1]) (t := 24) ?hr ?_; (case hd => rfl); (case hg => rfl); (case hr => first | (go_simp; done) | (go_simp; rfl)); intro gb734 hg w10 hbox hb; have n0_ := zA (zlq (g := gb733) (o := .cells #[.int .u64 a0_0, .int .u64 a0_1] 24 (0, 0)) (by (with_reducible repeat (first | refine zgq ?_ _ | refine zhq ?_ | refine ziq ?_ _)); exact BK733.out) hb); have n1_ := zA (zeq (by repeat (first | (with_reducible first | exact HB.out | apply zaq | apply zbq | apply zcq | refine zdq ?_ GE733.out) | exact HB.out)) hb); have n2_ := zA (hbox); have n3_ := zA ((by rw [hg]; exact (zfq (by repeat (first | (with_reducible first | exact HB.out | apply zaq | apply zbq | apply zcq | refine zdq ?_ GE733.out) | exact HB.out))) : w.heap.size ≤ gb734)); have n4_ := zA ((by rw [hg]; exact (zfq (by repeat (first | (with_reducible first | exact HB.out | apply zaq | apply zbq | apply zcq | refine zdq ?_ GE733.out) | exact HB.out))) : w.heap.size ≤ gb734)); have n5_ := zA ((by rw [hg]; exact Nat.ne_of_lt (blk_lt (g := gb733) (o := .cells #[.int .u64 a0_0, .int .u64 a0_1] 24 (0, 0)) (by (with_reducible repeat (first | refine zgq ?_ _ | refine zhq ?_ | refine ziq ?_ _)); exact BK733.out)) : gb733 ≠ gb734)); have n6_ := zA ((by rw [hg]; exact Nat.ne_of_gt (blk_lt (g := gb733) (o := .cells #[.int .u64 a0_0, .int .u64 a0_1] 24 (0, 0)) (by (with_reducible repeat (first | refine zgq ?_ _ | refine zhq ?_ | refine ziq ?_ _)); exact BK733.out)) : gb734 ≠ gb733)); clear BK733; clear HB; have BK733 := n0_; have HB := n1_; have BK734 := n2_; have GW734 := n3_; have GE734 := n4_; have NB733_734 := n5_; have NB734_733 := n6_; clear n0_ n1_ n2_ n3_ n4_ n5_ n6_; clear hb hbox hg) | ((with_reducible refine zoq (f := 39) rfl ?_); refine goesL_ (some 23) rfl rfl Try.func39 (by kernel_rfl) rfl #[] rfl (by (try simp only [List.map_toArray, List.map_cons, List.map_nil]); first | done | rfl | (simp only [List.length_drop, List.length_take]; rfl)) ?_; (with_reducible refine (tabardlaw2_shown.calls k  true _ A4.out).mono ?_); rintro e w11 ⟨rfl, hb⟩; refine ⟨_, rfl, ?_⟩; have n0_ := zA (zlq (g := gb733) (o := .cells #[.int .u64 a0_0, .int .u64 a0_1] 24 (0, 0)) (by (with_reducible repeat (first | refine zgq ?_ _ | refine zhq ?_ | refine ziq ?_ _)); exact BK733.out) hb); have n1_ := zA (zlq (g := gb734) (o := .cells #[.int .u64 a1_0, .int .u64 a1_1] 24 (0, 0)) (by (with_reducible repeat (first | refine zgq ?_ _ | refine zhq ?_ | refine ziq ?_ _)); exact BK734.out) hb); have n2_ := zA (zeq (by repeat (first | (with_reducible first | exact HB.out | apply zaq | apply zbq | apply zcq | refine zdq ?_ GE733.out | refine zdq ?_ GE734.out) | exact HB.out)) hb); clear BK733; clear BK734; clear HB; have BK733 := n0_; have BK734 := n1_; have HB := n2_; clear n0_ n1_ n2_; (try clear hb); (try clear hb2); (try clear hk); (try clear hi); have hnb12 := NB733_734.out; have hnc12 := NB734_733.out; have hcz13_0 : w11.cell? ⟨gb733, 0, none⟩ = some (.int .u64 a0_0) := (zmq BK733.out 0).trans rfl; have hcz13_1 : w11.cell? ⟨gb733, 1, none⟩ = some (.int .u64 a0_1) := (zmq BK733.out 1).trans rfl; have hfz13_0 := znq BK733.out 0; have hfz13_1 := znq BK733.out 1; have hcz14_0 : w11.cell? ⟨gb734, 0, none⟩ = some (.int .u64 a1_0) := (zmq BK734.out 0).trans rfl; have hcz14_1 : w11.cell? ⟨gb734, 1, none⟩ = some (.int .u64 a1_1) := (zmq BK734.out 1).trans rfl; have hfz14_0 := znq BK734.out 0; have hfz14_1 := znq BK734.out 1) | ((with_reducible refine zoq (f := 41) rfl ?_); refine goesL_ (some 29) rfl rfl Try.func41 (by kernel_rfl) rfl #[.agg #[.int .u64 a0_0, .int .u64 a0_1], .agg #[.int .u64 a1_0, .int .u64 a1_1]] rfl (by (try simp only [List.map_toArray, List.map_cons, List.map_nil]); first | done | rfl | (simp only [List.length_drop, List.length_take]; rfl)) ?_; (with_reducible refine (wide_Add.calls a0_0 a0_1 a1_0 a1_1 t736 t737 t738 _ A6.out).mono ?_); rintro e w15 ⟨rfl, hb⟩; refine ⟨_, rfl, ?_⟩; have n0_ := zA (zlq (g := gb733) (o := .cells #[.int .u64 a0_0, .int .u64 a0_1] 24 (0, 0)) (by (with_reducible repeat (first | refine zgq ?_ _ | refine zhq ?_ | refine ziq ?_ _)); exact BK733.out) hb); have n1_ := zA (zlq (g := gb734) (o := .cells #[.int .u64 a1_0, .int .u64 a1_1] 24 (0, 0)) (by (with_reducible repeat (first | refine zgq ?_ _ | refine zhq ?_ | refine ziq ?_ _)); exact BK734.out) hb); have n2_ := zA (zeq (by repeat (first | (with_reducible first | exact HB.out | apply zaq | apply zbq | apply zcq | refine zdq ?_ GE733.out | refine zdq ?_ GE734.out) | exact HB.out)) hb); clear BK733; clear BK734; clear HB; have BK733 := n0_; have BK734 := n1_; have HB := n2_; clear n0_ n1_ n2_; (try clear hb); (try clear hb2); (try clear hk); (try clear hi)) | ((with_reducible refine zpq (N := 8) rfl ?_); refine zqq ?hg (N := 8) ?hd (cs := #[.int .u64 0, .int .u64 0]) (t := 24) ?hr ?_; (case hd => rfl); (case hg => rfl); (case hr => first | (go_simp; done) | (go_simp; rfl)); intro gb739 hg w16 hbox hb; have n0_ := zA (zlq (g := gb733) (o := .cells #[.int .u64 a0_0, .int .u64 a0_1] 24 (0, 0)) (by (with_reducible repeat (first | refine zgq ?_ _ | refine zhq ?_ | refine ziq ?_ _)); exact BK733.out) hb); have n1_ := zA (zlq (g := gb734) (o := .cells #[.int .u64 a1_0, .int .u64 a1_1] 24 (0, 0)) (by (with_reducible repeat (first | refine zgq ?_ _ | refine zhq ?_ | refine ziq ?_ _)); exact BK734.out) hb); have n2_ := zA (zeq (by repeat (first | (with_reducible first | exact HB.out | apply zaq | apply zbq | apply zcq | refine zdq ?_ GE733.out | refine zdq ?_ GE734.out) | exact HB.out)) hb); have n3_ := zA (hbox); have n4_ := zA ((by rw [hg]; exact (zfq (by repeat (first | (with_reducible first | exact HB.out | apply zaq | apply zbq | apply zcq | refine zdq ?_ GE733.out | refine zdq ?_ GE734.out) | exact HB.out))) : w.heap.size ≤ gb739)); have n5_ := zA ((by rw [hg]; exact (zfq (by repeat (first | (with_reducible first | exact HB.out | apply zaq | apply zbq | apply zcq | refine zdq ?_ GE733.out | refine zdq ?_ GE734.out) | exact HB.out))) : w.heap.size ≤ gb739)); have n6_ := zA ((by rw [hg]; exact Nat.ne_of_lt (blk_lt (g := gb733) (o := .cells #[.int .u64 a0_0, .int .u64 a0_1] 24 (0, 0)) (by (with_reducible repeat (first | refine zgq ?_ _ | refine zhq ?_ | refine ziq ?_ _)); exact BK733.out)) : gb733 ≠ gb739)); have n7_ := zA ((by rw [hg]; exact Nat.ne_of_gt (blk_lt (g := gb733) (o := .cells #[.int .u64 a0_0, .int .u64 a0_1] 24 (0, 0)) (by (with_reducible repeat (first | refine zgq ?_ _ | refine zhq ?_ | refine ziq ?_ _)); exact BK733.out)) : gb739 ≠ gb733)); have n8_ := zA ((by rw [hg]; exact Nat.ne_of_lt (blk_lt (g := gb734) (o := .cells #[.int .u64 a1_0, .int .u64 a1_1] 24 (0, 0)) (by (with_reducible repeat (first | refine zgq ?_ _ | refine zhq ?_ | refine ziq ?_ _)); exact BK734.out)) : gb734 ≠ gb739)); have n9_ := zA ((by rw [hg]; exact Nat.ne_of_gt (blk_lt (g := gb734) (o := .cells #[.int .u64 a1_0, .int .u64 a1_1] 24 (0, 0)) (by (with_reducible repeat (first | refine zgq ?_ _ | refine zhq ?_ | refine ziq ?_ _)); exact BK734.out)) : gb739 ≠ gb734)); clear BK733; clear BK734; clear HB; have BK733 := n0_; have BK734 := n1_; have HB := n2_; have BK739 := n3_; have GW739 := n4_; have GE739 := n5_; have NB733_739 := n6_; have NB739_733 := n7_; have NB734_739 := n8_; have NB739_734 := n9_; clear n0_ n1_ n2_ n3_ n4_ n5_ n6_ n7_ n8_ n9_; clear hb hbox hg; have hnb17 := NB739_733.out; have hnc17 := NB733_739.out; have hnb18 := NB739_734.out; have hnc18 := NB734_739.out; have hcz19_0 : w16.cell? ⟨gb739, 0, none⟩ = some (.int .u64 0) := (zmq BK739.out 0).trans rfl; have hcz19_1 : w16.cell? ⟨gb739, 1, none⟩ = some (.int .u64 0) := (zmq BK739.out 1).trans rfl; have hfz19_0 := znq BK739.out 0; have hfz19_1 := znq BK739.out 1; have hcz20_0 : w16.cell? ⟨gb734, 0, none⟩ = some (.int .u64 a1_0) := (zmq BK734.out 0).trans rfl; have hcz20_1 : w16.cell? ⟨gb734, 1, none⟩ = some (.int .u64 a1_1) := (zmq BK734.out 1).trans rfl; have hfz20_0 := znq BK734.out 0; have hfz20_1 := znq BK734.out 1) | ((with_reducible refine zoq (f := 43) rfl ?_); refine goesL_ (some 35) rfl rfl Try.func43 (by kernel_rfl) rfl #[.agg #[.int .u64 t736, .int .u64 t737], .agg #[.int .u64 a1_0, .int .u64 a1_1]] rfl (by (try simp only [List.map_toArray, List.map_cons, List.map_nil]); first | done | rfl | (simp only [List.length_drop, List.length_take]; rfl)) ?_; (with_reducible refine (wide_Sub.calls t736 t737 a1_0 a1_1 t740 t741 t742 _ A7.out).mono ?_); rintro e w21 ⟨rfl, hb⟩; refine ⟨_, rfl, ?_⟩; have n0_ := zA (zlq (g := gb733) (o := .cells #[.int .u64 a0_0, .int .u64 a0_1] 24 (0, 0)) (by (with_reducible repeat (first | refine zgq ?_ _ | refine zhq ?_ | refine ziq ?_ _)); refine zjq ?_ NB733_739.out _; (with_reducible repeat (first | refine zgq ?_ _ | refine zhq ?_ | refine ziq ?_ _)); refine zjq ?_ NB733_739.out _; (with_reducible repeat (first | refine zgq ?_ _ | refine zhq ?_ | refine ziq ?_ _)); exact BK733.out) hb); have n1_ := zA (zlq (g := gb734) (o := .cells #[.int .u64 a1_0, .int .u64 a1_1] 24 (0, 0)) (by (with_reducible repeat (first | refine zgq ?_ _ | refine zhq ?_ | refine ziq ?_ _)); refine zjq ?_ NB734_739.out _; (with_reducible repeat (first | refine zgq ?_ _ | refine zhq ?_ | refine ziq ?_ _)); refine zjq ?_ NB734_739.out _; (with_reducible repeat (first | refine zgq ?_ _ | refine zhq ?_ | refine ziq ?_ _)); exact BK734.out) hb); have n2_ := zA (zlq (g := gb739) (o := .cells #[.int .u64 t736, .int .u64 t737] 24 (0, 0)) (by (with_reducible repeat (first | refine zgq ?_ _ | refine zhq ?_ | refine ziq ?_ _)); refine zkq (cs := #[.int .u64 t736, .int .u64 0]) ?_ 1 _ rfl; (with_reducible repeat (first | refine zgq ?_ _ | refine zhq ?_ | refine ziq ?_ _)); refine zkq (cs := #[.int .u64 0, .int .u64 0]) ?_ 0 _ rfl; (with_reducible repeat (first | refine zgq ?_ _ | refine zhq ?_ | refine ziq ?_ _)); exact BK739.out) hb); have n3_ := zA (zeq (by repeat (first | (with_reducible first | exact HB.out | apply zaq | apply zbq | apply zcq | refine zdq ?_ GE733.out | refine zdq ?_ GE734.out | refine zdq ?_ GE739.out) | exact HB.out)) hb); clear BK733; clear BK734; clear BK739; clear HB; have BK733 := n0_; have BK734 := n1_; have BK739 := n2_; have HB := n3_; clear n0_ n1_ n2_ n3_; (try clear hb); (try clear hb2); (try clear hk); (try clear hi)) | ((with_reducible refine zpq (N := 10) rfl ?_); refine zqq ?hg (N := 10) ?hd (cs := #[.int .u64 0, .int .u64 0]) (t := 24) ?hr ?_; (case hd => rfl); (case hg => rfl); (case hr => first | (go_simp; done) | (go_simp; rfl)); intro gb743 hg w22 hbox hb; have n0_ := zA (zlq (g := gb733) (o := .cells #[.int .u64 a0_0, .int .u64 a0_1] 24 (0, 0)) (by (with_reducible repeat (first | refine zgq ?_ _ | refine zhq ?_ | refine ziq ?_ _)); exact BK733.out) hb); have n1_ := zA (zlq (g := gb734) (o := .cells #[.int .u64 a1_0, .int .u64 a1_1] 24 (0, 0)) (by (with_reducible repeat (first | refine zgq ?_ _ | refine zhq ?_ | refine ziq ?_ _)); exact BK734.out) hb); have n2_ := zA (zlq (g := gb739) (o := .cells #[.int .u64 t736, .int .u64 t737] 24 (0, 0)) (by (with_reducible repeat (first | refine zgq ?_ _ | refine zhq ?_ | refine ziq ?_ _)); exact BK739.out) hb); have n3_ := zA (zeq (by repeat (first | (with_reducible first | exact HB.out | apply zaq | apply zbq | apply zcq | refine zdq ?_ GE733.out | refine zdq ?_ GE734.out | refine zdq ?_ GE739.out) | exact HB.out)) hb); have n4_ := zA (hbox); have n5_ := zA ((by rw [hg]; exact (zfq (by repeat (first | (with_reducible first | exact HB.out | apply zaq | apply zbq | apply zcq | refine zdq ?_ GE733.out | refine zdq ?_ GE734.out | refine zdq ?_ GE739.out) | exact HB.out))) : w.heap.size ≤ gb743)); have n6_ := zA ((by rw [hg]; exact (zfq (by repeat (first | (with_reducible first | exact HB.out | apply zaq | apply zbq | apply zcq | refine zdq ?_ GE733.out | refine zdq ?_ GE734.out | refine zdq ?_ GE739.out) | exact HB.out))) : w.heap.size ≤ gb743)); have n7_ := zA ((by rw [hg]; exact Nat.ne_of_lt (blk_lt (g := gb733) (o := .cells #[.int .u64 a0_0, .int .u64 a0_1] 24 (0, 0)) (by (with_reducible repeat (first | refine zgq ?_ _ | refine zhq ?_ | refine ziq ?_ _)); exact BK733.out)) : gb733 ≠ gb743)); have n8_ := zA ((by rw [hg]; exact Nat.ne_of_gt (blk_lt (g := gb733) (o := .cells #[.int .u64 a0_0, .int .u64 a0_1] 24 (0, 0)) (by (with_reducible repeat (first | refine zgq ?_ _ | refine zhq ?_ | refine ziq ?_ _)); exact BK733.out)) : gb743 ≠ gb733)); have n9_ := zA ((by rw [hg]; exact Nat.ne_of_lt (blk_lt (g := gb734) (o := .cells #[.int .u64 a1_0, .int .u64 a1_1] 24 (0, 0)) (by (with_reducible repeat (first | refine zgq ?_ _ | refine zhq ?_ | refine ziq ?_ _)); exact BK734.out)) : gb734 ≠ gb743)); have n10_ := zA ((by rw [hg]; exact Nat.ne_of_gt (blk_lt (g := gb734) (o := .cells #[.int .u64 a1_0, .int .u64 a1_1] 24 (0, 0)) (by (with_reducible repeat (first | refine zgq ?_ _ | refine zhq ?_ | refine ziq ?_ _)); exact BK734.out)) : gb743 ≠ gb734)); have n11_ := zA ((by rw [hg]; exact Nat.ne_of_lt (blk_lt (g := gb739) (o := .cells #[.int .u64 t736, .int .u64 t737] 24 (0, 0)) (by (with_reducible repeat (first | refine zgq ?_ _ | refine zhq ?_ | refine ziq ?_ _)); exact BK739.out)) : gb739 ≠ gb743)); have n12_ := zA ((by rw [hg]; exact Nat.ne_of_gt (blk_lt (g := gb739) (o := .cells #[.int .u64 t736, .int .u64 t737] 24 (0, 0)) (by (with_reducible repeat (first | refine zgq ?_ _ | refine zhq ?_ | refine ziq ?_ _)); exact BK739.out)) : gb743 ≠ gb739)); clear BK733; clear BK734; clear BK739; clear HB; have BK733 := n0_; have BK734 := n1_; have BK739 := n2_; have HB := n3_; have BK743 := n4_; have GW743 := n5_; have GE743 := n6_; have NB733_743 := n7_; have NB743_733 := n8_; have NB734_743 := n9_; have NB743_734 := n10_; have NB739_743 := n11_; have NB743_739 := n12_; clear n0_ n1_ n2_ n3_ n4_ n5_ n6_ n7_ n8_ n9_ n10_ n11_ n12_; clear hb hbox hg; have hnb23 := NB743_733.out; have hnc23 := NB733_743.out; have hnb24 := NB743_734.out; have hnc24 := NB734_743.out; have hnb25 := NB743_739.out; have hnc25 := NB739_743.out; have hcz26_0 : w22.cell? ⟨gb743, 0, none⟩ = some (.int .u64 0) := (zmq BK743.out 0).trans rfl; have hcz26_1 : w22.cell? ⟨gb743, 1, none⟩ = some (.int .u64 0) := (zmq BK743.out 1).trans rfl; have hfz26_0 := znq BK743.out 0; have hfz26_1 := znq BK743.out 1))
  (try simp only [Act.put, List.setIfInBounds_toArray, List.set_cons_zero, List.set_cons_succ])
  go_cut [45] (fun v45 wc => ∃ (kq : Nat) (x45_7 : Bool), v45 = .bool x45_7 ∧ Aside0 (tabardlaw2_WideBack.j0 kq a2 x45_7 a0_0 a0_1 a1_0 a1_1 = some r) ∧ Aside0 (kq ≤ k) ∧ Aside0 (wc.heap[gb733]? = some (.cells #[.int .u64 a0_0, .int .u64 a0_1] 24 (0, 0))) ∧ Aside0 (wc.heap[gb734]? = some (.cells #[.int .u64 a1_0, .int .u64 a1_1] 24 (0, 0))) ∧ Aside0 (wc.heap[gb739]? = some (.cells #[.int .u64 t736, .int .u64 t737] 24 (0, 0))) ∧ Aside0 (wc.heap[gb743]? = some (.cells #[.int .u64 t740, .int .u64 t741] 24 (0, 0))) ∧ Aside0 (Below w.heap.size w wc))
  case first =>
   have H := HC8.out
   clear HC8
   by_cases c27 : (!(t740 == a0_0) || (!(t741 == a0_1))) = true
   ·
    rw [if_pos c27] at H
    have c27b0 : (!(t740 == a0_0) || (!(t741 == a0_1))) = true := c27
    clear c27
    (first | rw [c27b0] | (simp only [i64_w, i32_w]; rw [c27b0]) | skip)
    have H' := zA H
    clear H
    have hnb28 := NB743_733.out
    have hnc28 := NB733_743.out
    have hnb29 := NB743_734.out
    have hnc29 := NB734_743.out
    have hnb30 := NB743_739.out
    have hnc30 := NB739_743.out
    have hcz31_0 : w22.cell? ⟨gb743, 0, none⟩ = some (.int .u64 0) := (zmq BK743.out 0).trans rfl
    have hcz31_1 : w22.cell? ⟨gb743, 1, none⟩ = some (.int .u64 0) := (zmq BK743.out 1).trans rfl
    have hfz31_0 := znq BK743.out 0
    have hfz31_1 := znq BK743.out 1
    have hnb32 := NB733_734.out
    have hnc32 := NB734_733.out
    have hnb33 := NB733_739.out
    have hnc33 := NB739_733.out
    have hcz34_0 : w22.cell? ⟨gb733, 0, none⟩ = some (.int .u64 a0_0) := (zmq BK733.out 0).trans rfl
    have hcz34_1 : w22.cell? ⟨gb733, 1, none⟩ = some (.int .u64 a0_1) := (zmq BK733.out 1).trans rfl
    have hfz34_0 := znq BK733.out 0
    have hfz34_1 := znq BK733.out 1
    go_wp2
    go_meet
    case rel => exact ⟨_, (true), (by first | rfl | (simp; done) | (simp [*]; done)), H', ⟨by first | omega | exact Nat.le_refl _⟩, ⟨by (with_reducible repeat (first | refine zgq ?_ _ | refine zhq ?_ | refine ziq ?_ _)); refine zjq ?_ NB733_743.out _; (with_reducible repeat (first | refine zgq ?_ _ | refine zhq ?_ | refine ziq ?_ _)); refine zjq ?_ NB733_743.out _; (with_reducible repeat (first | refine zgq ?_ _ | refine zhq ?_ | refine ziq ?_ _)); exact BK733.out⟩, ⟨by (with_reducible repeat (first | refine zgq ?_ _ | refine zhq ?_ | refine ziq ?_ _)); refine zjq ?_ NB734_743.out _; (with_reducible repeat (first | refine zgq ?_ _ | refine zhq ?_ | refine ziq ?_ _)); refine zjq ?_ NB734_743.out _; (with_reducible repeat (first | refine zgq ?_ _ | refine zhq ?_ | refine ziq ?_ _)); exact BK734.out⟩, ⟨by (with_reducible repeat (first | refine zgq ?_ _ | refine zhq ?_ | refine ziq ?_ _)); refine zjq ?_ NB739_743.out _; (with_reducible repeat (first | refine zgq ?_ _ | refine zhq ?_ | refine ziq ?_ _)); refine zjq ?_ NB739_743.out _; (with_reducible repeat (first | refine zgq ?_ _ | refine zhq ?_ | refine ziq ?_ _)); exact BK739.out⟩, ⟨by (with_reducible repeat (first | refine zgq ?_ _ | refine zhq ?_ | refine ziq ?_ _)); refine zkq (cs := #[.int .u64 t740, .int .u64 0]) ?_ 1 _ rfl; (with_reducible repeat (first | refine zgq ?_ _ | refine zhq ?_ | refine ziq ?_ _)); refine zkq (cs := #[.int .u64 0, .int .u64 0]) ?_ 0 _ rfl; (with_reducible repeat (first | refine zgq ?_ _ | refine zhq ?_ | refine ziq ?_ _)); exact BK743.out⟩, ⟨by repeat (first | (with_reducible first | exact HB.out | apply zaq | apply zbq | apply zcq | refine zdq ?_ GE733.out | refine zdq ?_ GE734.out | refine zdq ?_ GE739.out | refine zdq ?_ GE743.out) | exact HB.out)⟩⟩
   ·
    rw [if_neg c27] at H
    have c27b0 : (!(t740 == a0_0) || (!(t741 == a0_1))) = false := by simpa using c27
    clear c27
    (first | rw [c27b0] | (simp only [i64_w, i32_w]; rw [c27b0]) | skip)
    have H' := zA H
    clear H
    have hnb35 := NB743_733.out
    have hnc35 := NB733_743.out
    have hnb36 := NB743_734.out
    have hnc36 := NB734_743.out
    have hnb37 := NB743_739.out
    have hnc37 := NB739_743.out
    have hcz38_0 : w22.cell? ⟨gb743, 0, none⟩ = some (.int .u64 0) := (zmq BK743.out 0).trans rfl
    have hcz38_1 : w22.cell? ⟨gb743, 1, none⟩ = some (.int .u64 0) := (zmq BK743.out 1).trans rfl
    have hfz38_0 := znq BK743.out 0
    have hfz38_1 := znq BK743.out 1
    have hnb39 := NB733_734.out
    have hnc39 := NB734_733.out
    have hnb40 := NB733_739.out
    have hnc40 := NB739_733.out
    have hcz41_0 : w22.cell? ⟨gb733, 0, none⟩ = some (.int .u64 a0_0) := (zmq BK733.out 0).trans rfl
    have hcz41_1 : w22.cell? ⟨gb733, 1, none⟩ = some (.int .u64 a0_1) := (zmq BK733.out 1).trans rfl
    have hfz41_0 := znq BK733.out 0
    have hfz41_1 := znq BK733.out 1
    go_wp2
    go_meet
    case rel => exact ⟨_, ((t738 != t742)), (by first | rfl | (simp; done) | (simp [*]; done)), H', ⟨by first | omega | exact Nat.le_refl _⟩, ⟨by (with_reducible repeat (first | refine zgq ?_ _ | refine zhq ?_ | refine ziq ?_ _)); refine zjq ?_ NB733_743.out _; (with_reducible repeat (first | refine zgq ?_ _ | refine zhq ?_ | refine ziq ?_ _)); refine zjq ?_ NB733_743.out _; (with_reducible repeat (first | refine zgq ?_ _ | refine zhq ?_ | refine ziq ?_ _)); exact BK733.out⟩, ⟨by (with_reducible repeat (first | refine zgq ?_ _ | refine zhq ?_ | refine ziq ?_ _)); refine zjq ?_ NB734_743.out _; (with_reducible repeat (first | refine zgq ?_ _ | refine zhq ?_ | refine ziq ?_ _)); refine zjq ?_ NB734_743.out _; (with_reducible repeat (first | refine zgq ?_ _ | refine zhq ?_ | refine ziq ?_ _)); exact BK734.out⟩, ⟨by (with_reducible repeat (first | refine zgq ?_ _ | refine zhq ?_ | refine ziq ?_ _)); refine zjq ?_ NB739_743.out _; (with_reducible repeat (first | refine zgq ?_ _ | refine zhq ?_ | refine ziq ?_ _)); refine zjq ?_ NB739_743.out _; (with_reducible repeat (first | refine zgq ?_ _ | refine zhq ?_ | refine ziq ?_ _)); exact BK739.out⟩, ⟨by (with_reducible repeat (first | refine zgq ?_ _ | refine zhq ?_ | refine ziq ?_ _)); refine zkq (cs := #[.int .u64 t740, .int .u64 0]) ?_ 1 _ rfl; (with_reducible repeat (first | refine zgq ?_ _ | refine zhq ?_ | refine ziq ?_ _)); refine zkq (cs := #[.int .u64 0, .int .u64 0]) ?_ 0 _ rfl; (with_reducible repeat (first | refine zgq ?_ _ | refine zhq ?_ | refine ziq ?_ _)); exact BK743.out⟩, ⟨by repeat (first | (with_reducible first | exact HB.out | apply zaq | apply zbq | apply zcq | refine zdq ?_ GE733.out | refine zdq ?_ GE734.out | refine zdq ?_ GE739.out | refine zdq ?_ GE743.out) | exact HB.out)⟩⟩
  case rest =>
   clear HC8
   try clear c1
   try clear c2
   try clear p2
   try clear c3
   try clear c4
   try clear c5
   try clear c12
   try clear c17
   try clear c18
   try clear c23
   try clear c24
   try clear c25
   try clear c27
   try clear c27b0
   try clear c28
   try clear c29
   try clear c30
   try clear c32
   try clear c33
   try clear c35
   try clear c36
   try clear c37
   try clear c39
   try clear c40
   try clear c41
   try clear hcz13_0
   try clear hcz13_1
   try clear hcz14_0
   try clear hcz14_1
   try clear hcz19_0
   try clear hcz19_1
   try clear hcz20_0
   try clear hcz20_1
   try clear hcz26_0
   try clear hcz26_1
   try clear hcz31_0
   try clear hcz31_1
   try clear hcz34_0
   try clear hcz34_1
   try clear hcz38_0
   try clear hcz38_1
   try clear hcz41_0
   try clear hcz41_1
   try clear hfz13_0
   try clear hfz13_1
   try clear hfz14_0
   try clear hfz14_1
   try clear hfz19_0
   try clear hfz19_1
   try clear hfz20_0
   try clear hfz20_1
   try clear hfz26_0
   try clear hfz26_1
   try clear hfz31_0
   try clear hfz31_1
   try clear hfz34_0
   try clear hfz34_1
   try clear hfz38_0
   try clear hfz38_1
   try clear hfz41_0
   try clear hfz41_1
   obtain ⟨kq, x45_7, rfl, HA, HJ7, BK733, BK734, BK739, BK743, HB⟩ := hcut
   cases kq with
   | zero => exact absurd HA.out (by simp [tabardlaw2_WideBack.j0])
   | succ kj7 =>
    have H := HA.out
    clear HA
    simp only [tabardlaw2_WideBack.j0] at H
    by_cases c42 : x45_7 = true
    ·
     subst c42
     have H1 : (none) = some r := by rw [if_pos rfl] at H; exact H
     clear H
     have H := H1
     clear H1
     exact absurd H (by simp)
    ·
     replace c42 := Bool.eq_false_iff.mpr c42
     subst c42
     have H1 : (if a1_1 > 0 then ((wide_Div.f kj7 a0_0 a0_1 a1_1).bind fun bt744 => ((wide_Times.f bt744.1 bt744.2.1 a1_1).bind fun bt749 => ((wide_Low.f bt749.1 bt749.2.1 bt749.2.2).bind fun bt753 => ((wide_Add.f bt753.1 bt753.2 0 bt744.2.2.1).bind fun bt755 => (if bt749.1 = 0 then (if bt755.2.2 = true then (none) else (if (!(bt755.1 == a0_0) || (!(bt755.2.1 == a0_1))) = true then (none) else (if bt744.2.2.1 ≥ a1_1 then (none) else (tabardlaw2_WideBack.j1 kj7 a2 a0_0 a0_1)))) else (none)))))) else (tabardlaw2_WideBack.j1 kj7 a2 a0_0 a0_1)) = some r := by rw [if_neg (show ¬ (false = true) by decide)] at H; exact H
     clear H
     have H := H1
     clear H1
     have HC43 := zA H
     clear H
     have hnb44 := NB734_733.out
     have hnc44 := NB733_734.out
     have hnb45 := NB734_739.out
     have hnc45 := NB739_734.out
     have hnb46 := NB734_743.out
     have hnc46 := NB743_734.out
     have hcz47_0 : wc.cell? ⟨gb734, 0, none⟩ = some (.int .u64 a1_0) := (zmq BK734.out 0).trans rfl
     have hcz47_1 : wc.cell? ⟨gb734, 1, none⟩ = some (.int .u64 a1_1) := (zmq BK734.out 1).trans rfl
     have hfz47_0 := znq BK734.out 0
     have hfz47_1 := znq BK734.out 1
     go_upto_if 48 with (fail)
     go_cut [] (fun wc => ∃ (kq : Nat), Aside0 (tabardlaw2_WideBack.j1 kq a2 a0_0 a0_1 = some r) ∧ Aside0 (kq ≤ kj7) ∧ Aside0 (wc.heap[gb733]? = some (.cells #[.int .u64 a0_0, .int .u64 a0_1] 24 (0, 0))) ∧ Aside0 (wc.heap[gb734]? = some (.cells #[.int .u64 a1_0, .int .u64 a1_1] 24 (0, 0))) ∧ Aside0 (wc.heap[gb739]? = some (.cells #[.int .u64 t736, .int .u64 t737] 24 (0, 0))) ∧ Aside0 (wc.heap[gb743]? = some (.cells #[.int .u64 t740, .int .u64 t741] 24 (0, 0))) ∧ Aside0 (Below w.heap.size w wc))
     case first =>
      have H := HC43.out
      clear HC43
      by_cases c48 : a1_1 > 0
      ·
       rw [if_pos c48] at H
       have c48b0 : decide (0 < a1_1) = true := decide_eq_true c48
       clear c48
       (first | rw [c48b0] | (simp only [i64_w, i32_w]; rw [c48b0]) | skip)
       replace H := Option.bind_eq_some_iff.mp H
       obtain ⟨⟨t744, t745, t746, t747⟩, A490, H⟩ := H
       replace H : ((wide_Times.f t744 t745 a1_1).bind fun bt749 => ((wide_Low.f bt749.1 bt749.2.1 bt749.2.2).bind fun bt753 => ((wide_Add.f bt753.1 bt753.2 0 t746).bind fun bt755 => (if bt749.1 = 0 then (if bt755.2.2 = true then (none) else (if (!(bt755.1 == a0_0) || (!(bt755.2.1 == a0_1))) = true then (none) else (if t746 ≥ a1_1 then (none) else (tabardlaw2_WideBack.j1 kj7 a2 a0_0 a0_1)))) else (none))))) = some r := H
       have A49 := zA A490
       clear A490
       replace H := Option.bind_eq_some_iff.mp H
       obtain ⟨⟨t749, t750, t751⟩, A500, H⟩ := H
       replace H : ((wide_Low.f t749 t750 t751).bind fun bt753 => ((wide_Add.f bt753.1 bt753.2 0 t746).bind fun bt755 => (if t749 = 0 then (if bt755.2.2 = true then (none) else (if (!(bt755.1 == a0_0) || (!(bt755.2.1 == a0_1))) = true then (none) else (if t746 ≥ a1_1 then (none) else (tabardlaw2_WideBack.j1 kj7 a2 a0_0 a0_1)))) else (none)))) = some r := H
       have A50 := zA A500
       clear A500
       replace H := Option.bind_eq_some_iff.mp H
       obtain ⟨⟨t753, t754⟩, A510, H⟩ := H
       replace H : ((wide_Add.f t753 t754 0 t746).bind fun bt755 => (if t749 = 0 then (if bt755.2.2 = true then (none) else (if (!(bt755.1 == a0_0) || (!(bt755.2.1 == a0_1))) = true then (none) else (if t746 ≥ a1_1 then (none) else (tabardlaw2_WideBack.j1 kj7 a2 a0_0 a0_1)))) else (none))) = some r := H
       have A51 := zA A510
       clear A510
       replace H := Option.bind_eq_some_iff.mp H
       obtain ⟨⟨t755, t756, t757⟩, A520, H⟩ := H
       replace H : (if t749 = 0 then (if t757 = true then (none) else (if (!(t755 == a0_0) || (!(t756 == a0_1))) = true then (none) else (if t746 ≥ a1_1 then (none) else (tabardlaw2_WideBack.j1 kj7 a2 a0_0 a0_1)))) else (none)) = some r := H
       have A52 := zA A520
       clear A520
       by_cases c53 : t749 = 0
       ·
        rw [if_pos c53] at H
        have c53b0 : (t749 == 0) = true := beq_iff_eq.mpr c53
        have c53b1 : (t749 != 0) = false := bne_eq_false_iff_eq.mpr c53
        clear c53
        by_cases c54 : t757 = true
        ·
         subst c54
         have H1 : (none) = some r := by rw [if_pos rfl] at H; exact H
         clear H
         have H := H1
         clear H1
         exact absurd H (by simp)
        ·
         replace c54 := Bool.eq_false_iff.mpr c54
         subst c54
         have H1 : (if (!(t755 == a0_0) || (!(t756 == a0_1))) = true then (none) else (if t746 ≥ a1_1 then (none) else (tabardlaw2_WideBack.j1 kj7 a2 a0_0 a0_1))) = some r := by rw [if_neg (show ¬ (false = true) by decide)] at H; exact H
         clear H
         have H := H1
         clear H1
         by_cases c55 : (!(t755 == a0_0) || (!(t756 == a0_1))) = true
         ·
          rw [if_pos c55] at H
          exact absurd H (by simp)
         ·
          rw [if_neg c55] at H
          have c55b0 : (!(t755 == a0_0) || (!(t756 == a0_1))) = false := by simpa using c55
          clear c55
          by_cases c56 : t746 ≥ a1_1
          ·
           rw [if_pos c56] at H
           exact absurd H (by simp)
          ·
           rw [if_neg c56] at H
           have c56b0 : decide (a1_1 ≤ t746) = false := decide_eq_false c56
           clear c56
           have H' := zA H
           clear H
           have hnb57 := NB733_734.out
           have hnc57 := NB734_733.out
           have hnb58 := NB733_739.out
           have hnc58 := NB739_733.out
           have hnb59 := NB733_743.out
           have hnc59 := NB743_733.out
           have hcz60_0 : wc.cell? ⟨gb733, 0, none⟩ = some (.int .u64 a0_0) := (zmq BK733.out 0).trans rfl
           have hcz60_1 : wc.cell? ⟨gb733, 1, none⟩ = some (.int .u64 a0_1) := (zmq BK733.out 1).trans rfl
           have hfz60_0 := znq BK733.out 0
           have hfz60_1 := znq BK733.out 1
           have hnb61 := NB734_739.out
           have hnc61 := NB739_734.out
           have hnb62 := NB734_743.out
           have hnc62 := NB743_734.out
           have hcz63_0 : wc.cell? ⟨gb734, 0, none⟩ = some (.int .u64 a1_0) := (zmq BK734.out 0).trans rfl
           have hcz63_1 : wc.cell? ⟨gb734, 1, none⟩ = some (.int .u64 a1_1) := (zmq BK734.out 1).trans rfl
           have hfz63_0 := znq BK734.out 0
           have hfz63_1 := znq BK734.out 1
           go_wp2_with (first | ((with_reducible refine zoq (f := 55) rfl ?_); refine goesL_ (some 53) rfl rfl Try.func55 (by kernel_rfl) rfl #[.agg #[.int .u64 a0_0, .int .u64 a0_1], .int .u64 a1_1] rfl (by (try simp only [List.map_toArray, List.map_cons, List.map_nil]); first | done | rfl | (simp only [List.length_drop, List.length_take]; rfl)) ?_; (with_reducible refine (wide_Div.calls kj7 a0_0 a0_1 a1_1 t744 t745 t746 t747 _ A49.out).mono ?_); rintro e w64 ⟨rfl, hb⟩; refine ⟨_, rfl, ?_⟩; have n0_ := zA (zlq (g := gb733) (o := .cells #[.int .u64 a0_0, .int .u64 a0_1] 24 (0, 0)) (by (with_reducible repeat (first | refine zgq ?_ _ | refine zhq ?_ | refine ziq ?_ _)); exact BK733.out) hb); have n1_ := zA (zlq (g := gb734) (o := .cells #[.int .u64 a1_0, .int .u64 a1_1] 24 (0, 0)) (by (with_reducible repeat (first | refine zgq ?_ _ | refine zhq ?_ | refine ziq ?_ _)); exact BK734.out) hb); have n2_ := zA (zlq (g := gb739) (o := .cells #[.int .u64 t736, .int .u64 t737] 24 (0, 0)) (by (with_reducible repeat (first | refine zgq ?_ _ | refine zhq ?_ | refine ziq ?_ _)); exact BK739.out) hb); have n3_ := zA (zlq (g := gb743) (o := .cells #[.int .u64 t740, .int .u64 t741] 24 (0, 0)) (by (with_reducible repeat (first | refine zgq ?_ _ | refine zhq ?_ | refine ziq ?_ _)); exact BK743.out) hb); have n4_ := zA (zeq (by repeat (first | (with_reducible first | exact HB.out | apply zaq | apply zbq | apply zcq | refine zdq ?_ GE733.out | refine zdq ?_ GE734.out | refine zdq ?_ GE739.out | refine zdq ?_ GE743.out) | exact HB.out)) hb); clear BK733; clear BK734; clear BK739; clear BK743; clear HB; have BK733 := n0_; have BK734 := n1_; have BK739 := n2_; have BK743 := n3_; have HB := n4_; clear n0_ n1_ n2_ n3_ n4_; (try clear hb); (try clear hb2); (try clear hk); (try clear hi)) | ((with_reducible refine zpq (N := 12) rfl ?_); refine zqq ?hg (N := 12) ?hd (cs := #[.int .u64 0, .int .u64 0]) (t := 24) ?hr ?_; (case hd => rfl); (case hg => rfl); (case hr => first | (go_simp; done) | (go_simp; rfl)); intro gb748 hg w65 hbox hb; have n0_ := zA (zlq (g := gb733) (o := .cells #[.int .u64 a0_0, .int .u64 a0_1] 24 (0, 0)) (by (with_reducible repeat (first | refine zgq ?_ _ | refine zhq ?_ | refine ziq ?_ _)); exact BK733.out) hb); have n1_ := zA (zlq (g := gb734) (o := .cells #[.int .u64 a1_0, .int .u64 a1_1] 24 (0, 0)) (by (with_reducible repeat (first | refine zgq ?_ _ | refine zhq ?_ | refine ziq ?_ _)); exact BK734.out) hb); have n2_ := zA (zlq (g := gb739) (o := .cells #[.int .u64 t736, .int .u64 t737] 24 (0, 0)) (by (with_reducible repeat (first | refine zgq ?_ _ | refine zhq ?_ | refine ziq ?_ _)); exact BK739.out) hb); have n3_ := zA (zlq (g := gb743) (o := .cells #[.int .u64 t740, .int .u64 t741] 24 (0, 0)) (by (with_reducible repeat (first | refine zgq ?_ _ | refine zhq ?_ | refine ziq ?_ _)); exact BK743.out) hb); have n4_ := zA (zeq (by repeat (first | (with_reducible first | exact HB.out | apply zaq | apply zbq | apply zcq | refine zdq ?_ GE733.out | refine zdq ?_ GE734.out | refine zdq ?_ GE739.out | refine zdq ?_ GE743.out) | exact HB.out)) hb); have n5_ := zA (hbox); have n6_ := zA ((by rw [hg]; exact (zfq (by repeat (first | (with_reducible first | exact HB.out | apply zaq | apply zbq | apply zcq | refine zdq ?_ GE733.out | refine zdq ?_ GE734.out | refine zdq ?_ GE739.out | refine zdq ?_ GE743.out) | exact HB.out))) : w.heap.size ≤ gb748)); have n7_ := zA ((by rw [hg]; exact (zfq (by repeat (first | (with_reducible first | exact HB.out | apply zaq | apply zbq | apply zcq | refine zdq ?_ GE733.out | refine zdq ?_ GE734.out | refine zdq ?_ GE739.out | refine zdq ?_ GE743.out) | exact HB.out))) : w.heap.size ≤ gb748)); have n8_ := zA ((by rw [hg]; exact Nat.ne_of_lt (blk_lt (g := gb733) (o := .cells #[.int .u64 a0_0, .int .u64 a0_1] 24 (0, 0)) (by (with_reducible repeat (first | refine zgq ?_ _ | refine zhq ?_ | refine ziq ?_ _)); exact BK733.out)) : gb733 ≠ gb748)); have n9_ := zA ((by rw [hg]; exact Nat.ne_of_gt (blk_lt (g := gb733) (o := .cells #[.int .u64 a0_0, .int .u64 a0_1] 24 (0, 0)) (by (with_reducible repeat (first | refine zgq ?_ _ | refine zhq ?_ | refine ziq ?_ _)); exact BK733.out)) : gb748 ≠ gb733)); have n10_ := zA ((by rw [hg]; exact Nat.ne_of_lt (blk_lt (g := gb734) (o := .cells #[.int .u64 a1_0, .int .u64 a1_1] 24 (0, 0)) (by (with_reducible repeat (first | refine zgq ?_ _ | refine zhq ?_ | refine ziq ?_ _)); exact BK734.out)) : gb734 ≠ gb748)); have n11_ := zA ((by rw [hg]; exact Nat.ne_of_gt (blk_lt (g := gb734) (o := .cells #[.int .u64 a1_0, .int .u64 a1_1] 24 (0, 0)) (by (with_reducible repeat (first | refine zgq ?_ _ | refine zhq ?_ | refine ziq ?_ _)); exact BK734.out)) : gb748 ≠ gb734)); have n12_ := zA ((by rw [hg]; exact Nat.ne_of_lt (blk_lt (g := gb739) (o := .cells #[.int .u64 t736, .int .u64 t737] 24 (0, 0)) (by (with_reducible repeat (first | refine zgq ?_ _ | refine zhq ?_ | refine ziq ?_ _)); exact BK739.out)) : gb739 ≠ gb748)); have n13_ := zA ((by rw [hg]; exact Nat.ne_of_gt (blk_lt (g := gb739) (o := .cells #[.int .u64 t736, .int .u64 t737] 24 (0, 0)) (by (with_reducible repeat (first | refine zgq ?_ _ | refine zhq ?_ | refine ziq ?_ _)); exact BK739.out)) : gb748 ≠ gb739)); have n14_ := zA ((by rw [hg]; exact Nat.ne_of_lt (blk_lt (g := gb743) (o := .cells #[.int .u64 t740, .int .u64 t741] 24 (0, 0)) (by (with_reducible repeat (first | refine zgq ?_ _ | refine zhq ?_ | refine ziq ?_ _)); exact BK743.out)) : gb743 ≠ gb748)); have n15_ := zA ((by rw [hg]; exact Nat.ne_of_gt (blk_lt (g := gb743) (o := .cells #[.int .u64 t740, .int .u64 t741] 24 (0, 0)) (by (with_reducible repeat (first | refine zgq ?_ _ | refine zhq ?_ | refine ziq ?_ _)); exact BK743.out)) : gb748 ≠ gb743)); clear BK733; clear BK734; clear BK739; clear BK743; clear HB; have BK733 := n0_; have BK734 := n1_; have BK739 := n2_; have BK743 := n3_; have HB := n4_; have BK748 := n5_; have GW748 := n6_; have GE748 := n7_; have NB733_748 := n8_; have NB748_733 := n9_; have NB734_748 := n10_; have NB748_734 := n11_; have NB739_748 := n12_; have NB748_739 := n13_; have NB743_748 := n14_; have NB748_743 := n15_; clear n0_ n1_ n2_ n3_ n4_ n5_ n6_ n7_ n8_ n9_ n10_ n11_ n12_ n13_ n14_ n15_; clear hb hbox hg; have hnb66 := NB748_733.out; have hnc66 := NB733_748.out; have hnb67 := NB748_734.out; have hnc67 := NB734_748.out; have hnb68 := NB748_739.out; have hnc68 := NB739_748.out; have hnb69 := NB748_743.out; have hnc69 := NB743_748.out; have hcz70_0 : w65.cell? ⟨gb748, 0, none⟩ = some (.int .u64 0) := (zmq BK748.out 0).trans rfl; have hcz70_1 : w65.cell? ⟨gb748, 1, none⟩ = some (.int .u64 0) := (zmq BK748.out 1).trans rfl; have hfz70_0 := znq BK748.out 0; have hfz70_1 := znq BK748.out 1; have hcz71_0 : w65.cell? ⟨gb734, 0, none⟩ = some (.int .u64 a1_0) := (zmq BK734.out 0).trans rfl; have hcz71_1 : w65.cell? ⟨gb734, 1, none⟩ = some (.int .u64 a1_1) := (zmq BK734.out 1).trans rfl; have hfz71_0 := znq BK734.out 0; have hfz71_1 := znq BK734.out 1) | ((with_reducible refine zoq (f := 60) rfl ?_); refine goesL_ (some 60) rfl rfl Try.func60 (by kernel_rfl) rfl #[.agg #[.int .u64 t744, .int .u64 t745], .int .u64 a1_1] rfl (by (try simp only [List.map_toArray, List.map_cons, List.map_nil]); first | done | rfl | (simp only [List.length_drop, List.length_take]; rfl)) ?_; (with_reducible refine (wide_Times.calls t744 t745 a1_1 t749 t750 t751 _ A50.out).mono ?_); rintro e w72 ⟨rfl, hb⟩; refine ⟨_, rfl, ?_⟩; have n0_ := zA (zlq (g := gb733) (o := .cells #[.int .u64 a0_0, .int .u64 a0_1] 24 (0, 0)) (by (with_reducible repeat (first | refine zgq ?_ _ | refine zhq ?_ | refine ziq ?_ _)); refine zjq ?_ NB733_748.out _; (with_reducible repeat (first | refine zgq ?_ _ | refine zhq ?_ | refine ziq ?_ _)); refine zjq ?_ NB733_748.out _; (with_reducible repeat (first | refine zgq ?_ _ | refine zhq ?_ | refine ziq ?_ _)); exact BK733.out) hb); have n1_ := zA (zlq (g := gb734) (o := .cells #[.int .u64 a1_0, .int .u64 a1_1] 24 (0, 0)) (by (with_reducible repeat (first | refine zgq ?_ _ | refine zhq ?_ | refine ziq ?_ _)); refine zjq ?_ NB734_748.out _; (with_reducible repeat (first | refine zgq ?_ _ | refine zhq ?_ | refine ziq ?_ _)); refine zjq ?_ NB734_748.out _; (with_reducible repeat (first | refine zgq ?_ _ | refine zhq ?_ | refine ziq ?_ _)); exact BK734.out) hb); have n2_ := zA (zlq (g := gb739) (o := .cells #[.int .u64 t736, .int .u64 t737] 24 (0, 0)) (by (with_reducible repeat (first | refine zgq ?_ _ | refine zhq ?_ | refine ziq ?_ _)); refine zjq ?_ NB739_748.out _; (with_reducible repeat (first | refine zgq ?_ _ | refine zhq ?_ | refine ziq ?_ _)); refine zjq ?_ NB739_748.out _; (with_reducible repeat (first | refine zgq ?_ _ | refine zhq ?_ | refine ziq ?_ _)); exact BK739.out) hb); have n3_ := zA (zlq (g := gb743) (o := .cells #[.int .u64 t740, .int .u64 t741] 24 (0, 0)) (by (with_reducible repeat (first | refine zgq ?_ _ | refine zhq ?_ | refine ziq ?_ _)); refine zjq ?_ NB743_748.out _; (with_reducible repeat (first | refine zgq ?_ _ | refine zhq ?_ | refine ziq ?_ _)); refine zjq ?_ NB743_748.out _; (with_reducible repeat (first | refine zgq ?_ _ | refine zhq ?_ | refine ziq ?_ _)); exact BK743.out) hb); have n4_ := zA (zlq (g := gb748) (o := .cells #[.int .u64 t744, .int .u64 t745] 24 (0, 0)) (by (with_reducible repeat (first | refine zgq ?_ _ | refine zhq ?_ | refine ziq ?_ _)); refine zkq (cs := #[.int .u64 t744, .int .u64 0]) ?_ 1 _ rfl; (with_reducible repeat (first | refine zgq ?_ _ | refine zhq ?_ | refine ziq ?_ _)); refine zkq (cs := #[.int .u64 0, .int .u64 0]) ?_ 0 _ rfl; (with_reducible repeat (first | refine zgq ?_ _ | refine zhq ?_ | refine ziq ?_ _)); exact BK748.out) hb); have n5_ := zA (zeq (by repeat (first | (with_reducible first | exact HB.out | apply zaq | apply zbq | apply zcq | refine zdq ?_ GE733.out | refine zdq ?_ GE734.out | refine zdq ?_ GE739.out | refine zdq ?_ GE743.out | refine zdq ?_ GE748.out) | exact HB.out)) hb); clear BK733; clear BK734; clear BK739; clear BK743; clear BK748; clear HB; have BK733 := n0_; have BK734 := n1_; have BK739 := n2_; have BK743 := n3_; have BK748 := n4_; have HB := n5_; clear n0_ n1_ n2_ n3_ n4_ n5_; (try clear hb); (try clear hb2); (try clear hk); (try clear hi)) | ((with_reducible refine zpq (N := 15) rfl ?_); refine zqq ?hg (N := 15) ?hd (cs := #[.int .u64 0, .int .u64 0, .int .u64 0]) (t := 69) ?hr ?_; (case hd => rfl); (case hg => rfl); (case hr => first | (go_simp; done) | (go_simp; rfl)); intro gb752 hg w73 hbox hb; have n0_ := zA (zlq (g := gb733) (o := .cells #[.int .u64 a0_0, .int .u64 a0_1] 24 (0, 0)) (by (with_reducible repeat (first | refine zgq ?_ _ | refine zhq ?_ | refine ziq ?_ _)); exact BK733.out) hb); have n1_ := zA (zlq (g := gb734) (o := .cells #[.int .u64 a1_0, .int .u64 a1_1] 24 (0, 0)) (by (with_reducible repeat (first | refine zgq ?_ _ | refine zhq ?_ | refine ziq ?_ _)); exact BK734.out) hb); have n2_ := zA (zlq (g := gb739) (o := .cells #[.int .u64 t736, .int .u64 t737] 24 (0, 0)) (by (with_reducible repeat (first | refine zgq ?_ _ | refine zhq ?_ | refine ziq ?_ _)); exact BK739.out) hb); have n3_ := zA (zlq (g := gb743) (o := .cells #[.int .u64 t740, .int .u64 t741] 24 (0, 0)) (by (with_reducible repeat (first | refine zgq ?_ _ | refine zhq ?_ | refine ziq ?_ _)); exact BK743.out) hb); have n4_ := zA (zlq (g := gb748) (o := .cells #[.int .u64 t744, .int .u64 t745] 24 (0, 0)) (by (with_reducible repeat (first | refine zgq ?_ _ | refine zhq ?_ | refine ziq ?_ _)); exact BK748.out) hb); have n5_ := zA (zeq (by repeat (first | (with_reducible first | exact HB.out | apply zaq | apply zbq | apply zcq | refine zdq ?_ GE733.out | refine zdq ?_ GE734.out | refine zdq ?_ GE739.out | refine zdq ?_ GE743.out | refine zdq ?_ GE748.out) | exact HB.out)) hb); have n6_ := zA (hbox); have n7_ := zA ((by rw [hg]; exact (zfq (by repeat (first | (with_reducible first | exact HB.out | apply zaq | apply zbq | apply zcq | refine zdq ?_ GE733.out | refine zdq ?_ GE734.out | refine zdq ?_ GE739.out | refine zdq ?_ GE743.out | refine zdq ?_ GE748.out) | exact HB.out))) : w.heap.size ≤ gb752)); have n8_ := zA ((by rw [hg]; exact (zfq (by repeat (first | (with_reducible first | exact HB.out | apply zaq | apply zbq | apply zcq | refine zdq ?_ GE733.out | refine zdq ?_ GE734.out | refine zdq ?_ GE739.out | refine zdq ?_ GE743.out | refine zdq ?_ GE748.out) | exact HB.out))) : w.heap.size ≤ gb752)); have n9_ := zA ((by rw [hg]; exact Nat.ne_of_lt (blk_lt (g := gb733) (o := .cells #[.int .u64 a0_0, .int .u64 a0_1] 24 (0, 0)) (by (with_reducible repeat (first | refine zgq ?_ _ | refine zhq ?_ | refine ziq ?_ _)); exact BK733.out)) : gb733 ≠ gb752)); have n10_ := zA ((by rw [hg]; exact Nat.ne_of_gt (blk_lt (g := gb733) (o := .cells #[.int .u64 a0_0, .int .u64 a0_1] 24 (0, 0)) (by (with_reducible repeat (first | refine zgq ?_ _ | refine zhq ?_ | refine ziq ?_ _)); exact BK733.out)) : gb752 ≠ gb733)); have n11_ := zA ((by rw [hg]; exact Nat.ne_of_lt (blk_lt (g := gb734) (o := .cells #[.int .u64 a1_0, .int .u64 a1_1] 24 (0, 0)) (by (with_reducible repeat (first | refine zgq ?_ _ | refine zhq ?_ | refine ziq ?_ _)); exact BK734.out)) : gb734 ≠ gb752)); have n12_ := zA ((by rw [hg]; exact Nat.ne_of_gt (blk_lt (g := gb734) (o := .cells #[.int .u64 a1_0, .int .u64 a1_1] 24 (0, 0)) (by (with_reducible repeat (first | refine zgq ?_ _ | refine zhq ?_ | refine ziq ?_ _)); exact BK734.out)) : gb752 ≠ gb734)); have n13_ := zA ((by rw [hg]; exact Nat.ne_of_lt (blk_lt (g := gb739) (o := .cells #[.int .u64 t736, .int .u64 t737] 24 (0, 0)) (by (with_reducible repeat (first | refine zgq ?_ _ | refine zhq ?_ | refine ziq ?_ _)); exact BK739.out)) : gb739 ≠ gb752)); have n14_ := zA ((by rw [hg]; exact Nat.ne_of_gt (blk_lt (g := gb739) (o := .cells #[.int .u64 t736, .int .u64 t737] 24 (0, 0)) (by (with_reducible repeat (first | refine zgq ?_ _ | refine zhq ?_ | refine ziq ?_ _)); exact BK739.out)) : gb752 ≠ gb739)); have n15_ := zA ((by rw [hg]; exact Nat.ne_of_lt (blk_lt (g := gb743) (o := .cells #[.int .u64 t740, .int .u64 t741] 24 (0, 0)) (by (with_reducible repeat (first | refine zgq ?_ _ | refine zhq ?_ | refine ziq ?_ _)); exact BK743.out)) : gb743 ≠ gb752)); have n16_ := zA ((by rw [hg]; exact Nat.ne_of_gt (blk_lt (g := gb743) (o := .cells #[.int .u64 t740, .int .u64 t741] 24 (0, 0)) (by (with_reducible repeat (first | refine zgq ?_ _ | refine zhq ?_ | refine ziq ?_ _)); exact BK743.out)) : gb752 ≠ gb743)); have n17_ := zA ((by rw [hg]; exact Nat.ne_of_lt (blk_lt (g := gb748) (o := .cells #[.int .u64 t744, .int .u64 t745] 24 (0, 0)) (by (with_reducible repeat (first | refine zgq ?_ _ | refine zhq ?_ | refine ziq ?_ _)); exact BK748.out)) : gb748 ≠ gb752)); have n18_ := zA ((by rw [hg]; exact Nat.ne_of_gt (blk_lt (g := gb748) (o := .cells #[.int .u64 t744, .int .u64 t745] 24 (0, 0)) (by (with_reducible repeat (first | refine zgq ?_ _ | refine zhq ?_ | refine ziq ?_ _)); exact BK748.out)) : gb752 ≠ gb748)); clear BK733; clear BK734; clear BK739; clear BK743; clear BK748; clear HB; have BK733 := n0_; have BK734 := n1_; have BK739 := n2_; have BK743 := n3_; have BK748 := n4_; have HB := n5_; have BK752 := n6_; have GW752 := n7_; have GE752 := n8_; have NB733_752 := n9_; have NB752_733 := n10_; have NB734_752 := n11_; have NB752_734 := n12_; have NB739_752 := n13_; have NB752_739 := n14_; have NB743_752 := n15_; have NB752_743 := n16_; have NB748_752 := n17_; have NB752_748 := n18_; clear n0_ n1_ n2_ n3_ n4_ n5_ n6_ n7_ n8_ n9_ n10_ n11_ n12_ n13_ n14_ n15_ n16_ n17_ n18_; clear hb hbox hg; have hnb74 := NB752_733.out; have hnc74 := NB733_752.out; have hnb75 := NB752_734.out; have hnc75 := NB734_752.out; have hnb76 := NB752_739.out; have hnc76 := NB739_752.out; have hnb77 := NB752_743.out; have hnc77 := NB743_752.out; have hnb78 := NB752_748.out; have hnc78 := NB748_752.out; have hcz79_0 : w73.cell? ⟨gb752, 0, none⟩ = some (.int .u64 0) := (zmq BK752.out 0).trans rfl; have hcz79_1 : w73.cell? ⟨gb752, 1, none⟩ = some (.int .u64 0) := (zmq BK752.out 1).trans rfl; have hcz79_2 : w73.cell? ⟨gb752, 2, none⟩ = some (.int .u64 0) := (zmq BK752.out 2).trans rfl; have hfz79_0 := znq BK752.out 0; have hfz79_1 := znq BK752.out 1; have hfz79_2 := znq BK752.out 2) | ((with_reducible refine zoq (f := 62) rfl ?_); refine goesL_ (some 63) rfl rfl Try.func62 (by kernel_rfl) rfl #[.agg #[.int .u64 t749, .int .u64 t750, .int .u64 t751]] rfl (by (try simp only [List.map_toArray, List.map_cons, List.map_nil]); first | done | rfl | (simp only [List.length_drop, List.length_take]; rfl)) ?_; (with_reducible refine (wide_Low.calls t749 t750 t751 t753 t754 _ A51.out).mono ?_); rintro e w80 ⟨rfl, hb⟩; refine ⟨_, rfl, ?_⟩; have n0_ := zA (zlq (g := gb733) (o := .cells #[.int .u64 a0_0, .int .u64 a0_1] 24 (0, 0)) (by (with_reducible repeat (first | refine zgq ?_ _ | refine zhq ?_ | refine ziq ?_ _)); refine zjq ?_ NB733_752.out _; (with_reducible repeat (first | refine zgq ?_ _ | refine zhq ?_ | refine ziq ?_ _)); refine zjq ?_ NB733_752.out _; (with_reducible repeat (first | refine zgq ?_ _ | refine zhq ?_ | refine ziq ?_ _)); refine zjq ?_ NB733_752.out _; (with_reducible repeat (first | refine zgq ?_ _ | refine zhq ?_ | refine ziq ?_ _)); exact BK733.out) hb); have n1_ := zA (zlq (g := gb734) (o := .cells #[.int .u64 a1_0, .int .u64 a1_1] 24 (0, 0)) (by (with_reducible repeat (first | refine zgq ?_ _ | refine zhq ?_ | refine ziq ?_ _)); refine zjq ?_ NB734_752.out _; (with_reducible repeat (first | refine zgq ?_ _ | refine zhq ?_ | refine ziq ?_ _)); refine zjq ?_ NB734_752.out _; (with_reducible repeat (first | refine zgq ?_ _ | refine zhq ?_ | refine ziq ?_ _)); refine zjq ?_ NB734_752.out _; (with_reducible repeat (first | refine zgq ?_ _ | refine zhq ?_ | refine ziq ?_ _)); exact BK734.out) hb); have n2_ := zA (zlq (g := gb739) (o := .cells #[.int .u64 t736, .int .u64 t737] 24 (0, 0)) (by (with_reducible repeat (first | refine zgq ?_ _ | refine zhq ?_ | refine ziq ?_ _)); refine zjq ?_ NB739_752.out _; (with_reducible repeat (first | refine zgq ?_ _ | refine zhq ?_ | refine ziq ?_ _)); refine zjq ?_ NB739_752.out _; (with_reducible repeat (first | refine zgq ?_ _ | refine zhq ?_ | refine ziq ?_ _)); refine zjq ?_ NB739_752.out _; (with_reducible repeat (first | refine zgq ?_ _ | refine zhq ?_ | refine ziq ?_ _)); exact BK739.out) hb); have n3_ := zA (zlq (g := gb743) (o := .cells #[.int .u64 t740, .int .u64 t741] 24 (0, 0)) (by (with_reducible repeat (first | refine zgq ?_ _ | refine zhq ?_ | refine ziq ?_ _)); refine zjq ?_ NB743_752.out _; (with_reducible repeat (first | refine zgq ?_ _ | refine zhq ?_ | refine ziq ?_ _)); refine zjq ?_ NB743_752.out _; (with_reducible repeat (first | refine zgq ?_ _ | refine zhq ?_ | refine ziq ?_ _)); refine zjq ?_ NB743_752.out _; (with_reducible repeat (first | refine zgq ?_ _ | refine zhq ?_ | refine ziq ?_ _)); exact BK743.out) hb); have n4_ := zA (zlq (g := gb748) (o := .cells #[.int .u64 t744, .int .u64 t745] 24 (0, 0)) (by (with_reducible repeat (first | refine zgq ?_ _ | refine zhq ?_ | refine ziq ?_ _)); refine zjq ?_ NB748_752.out _; (with_reducible repeat (first | refine zgq ?_ _ | refine zhq ?_ | refine ziq ?_ _)); refine zjq ?_ NB748_752.out _; (with_reducible repeat (first | refine zgq ?_ _ | refine zhq ?_ | refine ziq ?_ _)); refine zjq ?_ NB748_752.out _; (with_reducible repeat (first | refine zgq ?_ _ | refine zhq ?_ | refine ziq ?_ _)); exact BK748.out) hb); have n5_ := zA (zlq (g := gb752) (o := .cells #[.int .u64 t749, .int .u64 t750, .int .u64 t751] 69 (0, 0)) (by (with_reducible repeat (first | refine zgq ?_ _ | refine zhq ?_ | refine ziq ?_ _)); refine zkq (cs := #[.int .u64 t749, .int .u64 t750, .int .u64 0]) ?_ 2 _ rfl; (with_reducible repeat (first | refine zgq ?_ _ | refine zhq ?_ | refine ziq ?_ _)); refine zkq (cs := #[.int .u64 t749, .int .u64 0, .int .u64 0]) ?_ 1 _ rfl; (with_reducible repeat (first | refine zgq ?_ _ | refine zhq ?_ | refine ziq ?_ _)); refine zkq (cs := #[.int .u64 0, .int .u64 0, .int .u64 0]) ?_ 0 _ rfl; (with_reducible repeat (first | refine zgq ?_ _ | refine zhq ?_ | refine ziq ?_ _)); exact BK752.out) hb); have n6_ := zA (zeq (by repeat (first | (with_reducible first | exact HB.out | apply zaq | apply zbq | apply zcq | refine zdq ?_ GE733.out | refine zdq ?_ GE734.out | refine zdq ?_ GE739.out | refine zdq ?_ GE743.out | refine zdq ?_ GE748.out | refine zdq ?_ GE752.out) | exact HB.out)) hb); clear BK733; clear BK734; clear BK739; clear BK743; clear BK748; clear BK752; clear HB; have BK733 := n0_; have BK734 := n1_; have BK739 := n2_; have BK743 := n3_; have BK748 := n4_; have BK752 := n5_; have HB := n6_; clear n0_ n1_ n2_ n3_ n4_ n5_ n6_; (try clear hb); (try clear hb2); (try clear hk); (try clear hi)) | ((with_reducible refine zoq (f := 41) rfl ?_); refine goesL_ (some 66) rfl rfl Try.func41 (by kernel_rfl) rfl #[.agg #[.int .u64 t753, .int .u64 t754], .agg #[.int .u64 0, .int .u64 t746]] rfl (by (try simp only [List.map_toArray, List.map_cons, List.map_nil]); first | done | rfl | (simp only [List.length_drop, List.length_take]; rfl)) ?_; (with_reducible refine (wide_Add.calls t753 t754 0 t746 t755 t756 false _ A52.out).mono ?_); rintro e w81 ⟨rfl, hb⟩; refine ⟨_, rfl, ?_⟩; have n0_ := zA (zlq (g := gb733) (o := .cells #[.int .u64 a0_0, .int .u64 a0_1] 24 (0, 0)) (by (with_reducible repeat (first | refine zgq ?_ _ | refine zhq ?_ | refine ziq ?_ _)); exact BK733.out) hb); have n1_ := zA (zlq (g := gb734) (o := .cells #[.int .u64 a1_0, .int .u64 a1_1] 24 (0, 0)) (by (with_reducible repeat (first | refine zgq ?_ _ | refine zhq ?_ | refine ziq ?_ _)); exact BK734.out) hb); have n2_ := zA (zlq (g := gb739) (o := .cells #[.int .u64 t736, .int .u64 t737] 24 (0, 0)) (by (with_reducible repeat (first | refine zgq ?_ _ | refine zhq ?_ | refine ziq ?_ _)); exact BK739.out) hb); have n3_ := zA (zlq (g := gb743) (o := .cells #[.int .u64 t740, .int .u64 t741] 24 (0, 0)) (by (with_reducible repeat (first | refine zgq ?_ _ | refine zhq ?_ | refine ziq ?_ _)); exact BK743.out) hb); have n4_ := zA (zlq (g := gb748) (o := .cells #[.int .u64 t744, .int .u64 t745] 24 (0, 0)) (by (with_reducible repeat (first | refine zgq ?_ _ | refine zhq ?_ | refine ziq ?_ _)); exact BK748.out) hb); have n5_ := zA (zlq (g := gb752) (o := .cells #[.int .u64 t749, .int .u64 t750, .int .u64 t751] 69 (0, 0)) (by (with_reducible repeat (first | refine zgq ?_ _ | refine zhq ?_ | refine ziq ?_ _)); exact BK752.out) hb); have n6_ := zA (zeq (by repeat (first | (with_reducible first | exact HB.out | apply zaq | apply zbq | apply zcq | refine zdq ?_ GE733.out | refine zdq ?_ GE734.out | refine zdq ?_ GE739.out | refine zdq ?_ GE743.out | refine zdq ?_ GE748.out | refine zdq ?_ GE752.out) | exact HB.out)) hb); clear BK733; clear BK734; clear BK739; clear BK743; clear BK748; clear BK752; clear HB; have BK733 := n0_; have BK734 := n1_; have BK739 := n2_; have BK743 := n3_; have BK748 := n4_; have BK752 := n5_; have HB := n6_; clear n0_ n1_ n2_ n3_ n4_ n5_ n6_; (try clear hb); (try clear hb2); (try clear hk); (try clear hi)) | ((with_reducible refine zpq (N := 16) rfl ?_); refine zqq ?hg (N := 16) ?hd (cs := #[.int .u64 0, .int .u64 0]) (t := 24) ?hr ?_; (case hd => rfl); (case hg => rfl); (case hr => first | (go_simp; done) | (go_simp; rfl)); intro gb758 hg w82 hbox hb; have n0_ := zA (zlq (g := gb733) (o := .cells #[.int .u64 a0_0, .int .u64 a0_1] 24 (0, 0)) (by (with_reducible repeat (first | refine zgq ?_ _ | refine zhq ?_ | refine ziq ?_ _)); exact BK733.out) hb); have n1_ := zA (zlq (g := gb734) (o := .cells #[.int .u64 a1_0, .int .u64 a1_1] 24 (0, 0)) (by (with_reducible repeat (first | refine zgq ?_ _ | refine zhq ?_ | refine ziq ?_ _)); exact BK734.out) hb); have n2_ := zA (zlq (g := gb739) (o := .cells #[.int .u64 t736, .int .u64 t737] 24 (0, 0)) (by (with_reducible repeat (first | refine zgq ?_ _ | refine zhq ?_ | refine ziq ?_ _)); exact BK739.out) hb); have n3_ := zA (zlq (g := gb743) (o := .cells #[.int .u64 t740, .int .u64 t741] 24 (0, 0)) (by (with_reducible repeat (first | refine zgq ?_ _ | refine zhq ?_ | refine ziq ?_ _)); exact BK743.out) hb); have n4_ := zA (zlq (g := gb748) (o := .cells #[.int .u64 t744, .int .u64 t745] 24 (0, 0)) (by (with_reducible repeat (first | refine zgq ?_ _ | refine zhq ?_ | refine ziq ?_ _)); exact BK748.out) hb); have n5_ := zA (zlq (g := gb752) (o := .cells #[.int .u64 t749, .int .u64 t750, .int .u64 t751] 69 (0, 0)) (by (with_reducible repeat (first | refine zgq ?_ _ | refine zhq ?_ | refine ziq ?_ _)); exact BK752.out) hb); have n6_ := zA (zeq (by repeat (first | (with_reducible first | exact HB.out | apply zaq | apply zbq | apply zcq | refine zdq ?_ GE733.out | refine zdq ?_ GE734.out | refine zdq ?_ GE739.out | refine zdq ?_ GE743.out | refine zdq ?_ GE748.out | refine zdq ?_ GE752.out) | exact HB.out)) hb); have n7_ := zA (hbox); have n8_ := zA ((by rw [hg]; exact (zfq (by repeat (first | (with_reducible first | exact HB.out | apply zaq | apply zbq | apply zcq | refine zdq ?_ GE733.out | refine zdq ?_ GE734.out | refine zdq ?_ GE739.out | refine zdq ?_ GE743.out | refine zdq ?_ GE748.out | refine zdq ?_ GE752.out) | exact HB.out))) : w.heap.size ≤ gb758)); have n9_ := zA ((by rw [hg]; exact (zfq (by repeat (first | (with_reducible first | exact HB.out | apply zaq | apply zbq | apply zcq | refine zdq ?_ GE733.out | refine zdq ?_ GE734.out | refine zdq ?_ GE739.out | refine zdq ?_ GE743.out | refine zdq ?_ GE748.out | refine zdq ?_ GE752.out) | exact HB.out))) : w.heap.size ≤ gb758)); have n10_ := zA ((by rw [hg]; exact Nat.ne_of_lt (blk_lt (g := gb733) (o := .cells #[.int .u64 a0_0, .int .u64 a0_1] 24 (0, 0)) (by (with_reducible repeat (first | refine zgq ?_ _ | refine zhq ?_ | refine ziq ?_ _)); exact BK733.out)) : gb733 ≠ gb758)); have n11_ := zA ((by rw [hg]; exact Nat.ne_of_gt (blk_lt (g := gb733) (o := .cells #[.int .u64 a0_0, .int .u64 a0_1] 24 (0, 0)) (by (with_reducible repeat (first | refine zgq ?_ _ | refine zhq ?_ | refine ziq ?_ _)); exact BK733.out)) : gb758 ≠ gb733)); have n12_ := zA ((by rw [hg]; exact Nat.ne_of_lt (blk_lt (g := gb734) (o := .cells #[.int .u64 a1_0, .int .u64 a1_1] 24 (0, 0)) (by (with_reducible repeat (first | refine zgq ?_ _ | refine zhq ?_ | refine ziq ?_ _)); exact BK734.out)) : gb734 ≠ gb758)); have n13_ := zA ((by rw [hg]; exact Nat.ne_of_gt (blk_lt (g := gb734) (o := .cells #[.int .u64 a1_0, .int .u64 a1_1] 24 (0, 0)) (by (with_reducible repeat (first | refine zgq ?_ _ | refine zhq ?_ | refine ziq ?_ _)); exact BK734.out)) : gb758 ≠ gb734)); have n14_ := zA ((by rw [hg]; exact Nat.ne_of_lt (blk_lt (g := gb739) (o := .cells #[.int .u64 t736, .int .u64 t737] 24 (0, 0)) (by (with_reducible repeat (first | refine zgq ?_ _ | refine zhq ?_ | refine ziq ?_ _)); exact BK739.out)) : gb739 ≠ gb758)); have n15_ := zA ((by rw [hg]; exact Nat.ne_of_gt (blk_lt (g := gb739) (o := .cells #[.int .u64 t736, .int .u64 t737] 24 (0, 0)) (by (with_reducible repeat (first | refine zgq ?_ _ | refine zhq ?_ | refine ziq ?_ _)); exact BK739.out)) : gb758 ≠ gb739)); have n16_ := zA ((by rw [hg]; exact Nat.ne_of_lt (blk_lt (g := gb743) (o := .cells #[.int .u64 t740, .int .u64 t741] 24 (0, 0)) (by (with_reducible repeat (first | refine zgq ?_ _ | refine zhq ?_ | refine ziq ?_ _)); exact BK743.out)) : gb743 ≠ gb758)); have n17_ := zA ((by rw [hg]; exact Nat.ne_of_gt (blk_lt (g := gb743) (o := .cells #[.int .u64 t740, .int .u64 t741] 24 (0, 0)) (by (with_reducible repeat (first | refine zgq ?_ _ | refine zhq ?_ | refine ziq ?_ _)); exact BK743.out)) : gb758 ≠ gb743)); have n18_ := zA ((by rw [hg]; exact Nat.ne_of_lt (blk_lt (g := gb748) (o := .cells #[.int .u64 t744, .int .u64 t745] 24 (0, 0)) (by (with_reducible repeat (first | refine zgq ?_ _ | refine zhq ?_ | refine ziq ?_ _)); exact BK748.out)) : gb748 ≠ gb758)); have n19_ := zA ((by rw [hg]; exact Nat.ne_of_gt (blk_lt (g := gb748) (o := .cells #[.int .u64 t744, .int .u64 t745] 24 (0, 0)) (by (with_reducible repeat (first | refine zgq ?_ _ | refine zhq ?_ | refine ziq ?_ _)); exact BK748.out)) : gb758 ≠ gb748)); have n20_ := zA ((by rw [hg]; exact Nat.ne_of_lt (blk_lt (g := gb752) (o := .cells #[.int .u64 t749, .int .u64 t750, .int .u64 t751] 69 (0, 0)) (by (with_reducible repeat (first | refine zgq ?_ _ | refine zhq ?_ | refine ziq ?_ _)); exact BK752.out)) : gb752 ≠ gb758)); have n21_ := zA ((by rw [hg]; exact Nat.ne_of_gt (blk_lt (g := gb752) (o := .cells #[.int .u64 t749, .int .u64 t750, .int .u64 t751] 69 (0, 0)) (by (with_reducible repeat (first | refine zgq ?_ _ | refine zhq ?_ | refine ziq ?_ _)); exact BK752.out)) : gb758 ≠ gb752)); clear BK733; clear BK734; clear BK739; clear BK743; clear BK748; clear BK752; clear HB; have BK733 := n0_; have BK734 := n1_; have BK739 := n2_; have BK743 := n3_; have BK748 := n4_; have BK752 := n5_; have HB := n6_; have BK758 := n7_; have GW758 := n8_; have GE758 := n9_; have NB733_758 := n10_; have NB758_733 := n11_; have NB734_758 := n12_; have NB758_734 := n13_; have NB739_758 := n14_; have NB758_739 := n15_; have NB743_758 := n16_; have NB758_743 := n17_; have NB748_758 := n18_; have NB758_748 := n19_; have NB752_758 := n20_; have NB758_752 := n21_; clear n0_ n1_ n2_ n3_ n4_ n5_ n6_ n7_ n8_ n9_ n10_ n11_ n12_ n13_ n14_ n15_ n16_ n17_ n18_ n19_ n20_ n21_; clear hb hbox hg; have hnb83 := NB758_733.out; have hnc83 := NB733_758.out; have hnb84 := NB758_734.out; have hnc84 := NB734_758.out; have hnb85 := NB758_739.out; have hnc85 := NB739_758.out; have hnb86 := NB758_743.out; have hnc86 := NB743_758.out; have hnb87 := NB758_748.out; have hnc87 := NB748_758.out; have hnb88 := NB758_752.out; have hnc88 := NB752_758.out; have hcz89_0 : w82.cell? ⟨gb758, 0, none⟩ = some (.int .u64 0) := (zmq BK758.out 0).trans rfl; have hcz89_1 : w82.cell? ⟨gb758, 1, none⟩ = some (.int .u64 0) := (zmq BK758.out 1).trans rfl; have hfz89_0 := znq BK758.out 0; have hfz89_1 := znq BK758.out 1; have hcz90_0 : w82.cell? ⟨gb752, 0, none⟩ = some (.int .u64 t749) := (zmq BK752.out 0).trans rfl; have hcz90_1 : w82.cell? ⟨gb752, 1, none⟩ = some (.int .u64 t750) := (zmq BK752.out 1).trans rfl; have hcz90_2 : w82.cell? ⟨gb752, 2, none⟩ = some (.int .u64 t751) := (zmq BK752.out 2).trans rfl; have hfz90_0 := znq BK752.out 0; have hfz90_1 := znq BK752.out 1; have hfz90_2 := znq BK752.out 2; have hcz91_0 : w82.cell? ⟨gb733, 0, none⟩ = some (.int .u64 a0_0) := (zmq BK733.out 0).trans rfl; have hcz91_1 : w82.cell? ⟨gb733, 1, none⟩ = some (.int .u64 a0_1) := (zmq BK733.out 1).trans rfl; have hfz91_0 := znq BK733.out 0; have hfz91_1 := znq BK733.out 1; have hcz92_0 : w82.cell? ⟨gb734, 0, none⟩ = some (.int .u64 a1_0) := (zmq BK734.out 0).trans rfl; have hcz92_1 : w82.cell? ⟨gb734, 1, none⟩ = some (.int .u64 a1_1) := (zmq BK734.out 1).trans rfl; have hfz92_0 := znq BK734.out 0; have hfz92_1 := znq BK734.out 1))
           go_meet
           case rel => exact ⟨_, H', ⟨by have := HJ7.out; first | omega | exact Nat.le_refl _⟩, ⟨by (with_reducible repeat (first | refine zgq ?_ _ | refine zhq ?_ | refine ziq ?_ _)); refine zjq ?_ NB733_758.out _; (with_reducible repeat (first | refine zgq ?_ _ | refine zhq ?_ | refine ziq ?_ _)); refine zjq ?_ NB733_758.out _; (with_reducible repeat (first | refine zgq ?_ _ | refine zhq ?_ | refine ziq ?_ _)); exact BK733.out⟩, ⟨by (with_reducible repeat (first | refine zgq ?_ _ | refine zhq ?_ | refine ziq ?_ _)); refine zjq ?_ NB734_758.out _; (with_reducible repeat (first | refine zgq ?_ _ | refine zhq ?_ | refine ziq ?_ _)); refine zjq ?_ NB734_758.out _; (with_reducible repeat (first | refine zgq ?_ _ | refine zhq ?_ | refine ziq ?_ _)); exact BK734.out⟩, ⟨by (with_reducible repeat (first | refine zgq ?_ _ | refine zhq ?_ | refine ziq ?_ _)); refine zjq ?_ NB739_758.out _; (with_reducible repeat (first | refine zgq ?_ _ | refine zhq ?_ | refine ziq ?_ _)); refine zjq ?_ NB739_758.out _; (with_reducible repeat (first | refine zgq ?_ _ | refine zhq ?_ | refine ziq ?_ _)); exact BK739.out⟩, ⟨by (with_reducible repeat (first | refine zgq ?_ _ | refine zhq ?_ | refine ziq ?_ _)); refine zjq ?_ NB743_758.out _; (with_reducible repeat (first | refine zgq ?_ _ | refine zhq ?_ | refine ziq ?_ _)); refine zjq ?_ NB743_758.out _; (with_reducible repeat (first | refine zgq ?_ _ | refine zhq ?_ | refine ziq ?_ _)); exact BK743.out⟩, ⟨by repeat (first | (with_reducible first | exact HB.out | apply zaq | apply zbq | apply zcq | refine zdq ?_ GE733.out | refine zdq ?_ GE734.out | refine zdq ?_ GE739.out | refine zdq ?_ GE743.out | refine zdq ?_ GE748.out | refine zdq ?_ GE752.out | refine zdq ?_ GE758.out) | exact HB.out)⟩⟩
       ·
        rw [if_neg c53] at H
        exact absurd H (by simp)
      ·
       rw [if_neg c48] at H
       have c48b0 : decide (0 < a1_1) = false := decide_eq_false c48
       clear c48
       (first | rw [c48b0] | (simp only [i64_w, i32_w]; rw [c48b0]) | skip)
       have H' := zA H
       clear H
       go_wp2
       go_meet
       case rel => exact ⟨_, H', ⟨by have := HJ7.out; first | omega | exact Nat.le_refl _⟩, ⟨by (with_reducible repeat (first | refine zgq ?_ _ | refine zhq ?_ | refine ziq ?_ _)); exact BK733.out⟩, ⟨by (with_reducible repeat (first | refine zgq ?_ _ | refine zhq ?_ | refine ziq ?_ _)); exact BK734.out⟩, ⟨by (with_reducible repeat (first | refine zgq ?_ _ | refine zhq ?_ | refine ziq ?_ _)); exact BK739.out⟩, ⟨by (with_reducible repeat (first | refine zgq ?_ _ | refine zhq ?_ | refine ziq ?_ _)); exact BK743.out⟩, ⟨by repeat (first | (with_reducible first | exact HB.out | apply zaq | apply zbq | apply zcq | refine zdq ?_ GE733.out | refine zdq ?_ GE734.out | refine zdq ?_ GE739.out | refine zdq ?_ GE743.out) | exact HB.out)⟩⟩
     case rest =>
      clear HC43
      try clear c1
      try clear c2
      try clear p2
      try clear c3
      try clear c4
      try clear c5
      try clear c6
      try clear c7
      try clear c8
      try clear c12
      try clear c17
      try clear c18
      try clear c23
      try clear c24
      try clear c25
      try clear c27
      try clear c27b0
      try clear c28
      try clear c29
      try clear c30
      try clear c32
      try clear c33
      try clear c35
      try clear c36
      try clear c37
      try clear c39
      try clear c40
      try clear c41
      try clear c42
      try clear c43
      try clear c44
      try clear c45
      try clear c46
      try clear c48
      try clear c48b0
      try clear c53
      try clear c53b0
      try clear c53b1
      try clear c54
      try clear c55
      try clear c55b0
      try clear c56
      try clear c56b0
      try clear c57
      try clear c58
      try clear c59
      try clear c60
      try clear c61
      try clear c62
      try clear c66
      try clear c67
      try clear c68
      try clear c69
      try clear c74
      try clear c75
      try clear c76
      try clear c77
      try clear c78
      try clear c83
      try clear c84
      try clear c85
      try clear c86
      try clear c87
      try clear c88
      try clear hcz13_0
      try clear hcz13_1
      try clear hcz14_0
      try clear hcz14_1
      try clear hcz19_0
      try clear hcz19_1
      try clear hcz20_0
      try clear hcz20_1
      try clear hcz26_0
      try clear hcz26_1
      try clear hcz31_0
      try clear hcz31_1
      try clear hcz34_0
      try clear hcz34_1
      try clear hcz38_0
      try clear hcz38_1
      try clear hcz41_0
      try clear hcz41_1
      try clear hcz47_0
      try clear hcz47_1
      try clear hcz60_0
      try clear hcz60_1
      try clear hcz63_0
      try clear hcz63_1
      try clear hcz70_0
      try clear hcz70_1
      try clear hcz71_0
      try clear hcz71_1
      try clear hcz79_0
      try clear hcz79_1
      try clear hcz79_2
      try clear hcz89_0
      try clear hcz89_1
      try clear hcz90_0
      try clear hcz90_1
      try clear hcz90_2
      try clear hcz91_0
      try clear hcz91_1
      try clear hcz92_0
      try clear hcz92_1
      try clear hfz13_0
      try clear hfz13_1
      try clear hfz14_0
      try clear hfz14_1
      try clear hfz19_0
      try clear hfz19_1
      try clear hfz20_0
      try clear hfz20_1
      try clear hfz26_0
      try clear hfz26_1
      try clear hfz31_0
      try clear hfz31_1
      try clear hfz34_0
      try clear hfz34_1
      try clear hfz38_0
      try clear hfz38_1
      try clear hfz41_0
      try clear hfz41_1
      try clear hfz47_0
      try clear hfz47_1
      try clear hfz60_0
      try clear hfz60_1
      try clear hfz63_0
      try clear hfz63_1
      try clear hfz70_0
      try clear hfz70_1
      try clear hfz71_0
      try clear hfz71_1
      try clear hfz79_0
      try clear hfz79_1
      try clear hfz79_2
      try clear hfz89_0
      try clear hfz89_1
      try clear hfz90_0
      try clear hfz90_1
      try clear hfz90_2
      try clear hfz91_0
      try clear hfz91_1
      try clear hfz92_0
      try clear hfz92_1
      try clear p2
      obtain ⟨kq, HA, HJ42, BK733, BK734, BK739, BK743, HB⟩ := hcut
      cases kq with
      | zero => exact absurd HA.out (by simp [tabardlaw2_WideBack.j1])
      | succ kj42 =>
       have H := HA.out
       clear HA
       simp only [tabardlaw2_WideBack.j1] at H
       have HC93 := zA H
       clear H
       go_upto_if 89 with (fail)
       go_cut [18] (fun v18 wc => ∃ (kq : Nat) (x18_92 : Int), v18 = .int .i64 x18_92 ∧ Aside0 (tabardlaw2_WideBack.j2 kq x18_92 a0_0 a0_1 = some r) ∧ Aside0 (kq ≤ kj42) ∧ Aside0 (wc.heap[gb733]? = some (.cells #[.int .u64 a0_0, .int .u64 a0_1] 24 (0, 0))) ∧ Aside0 (wc.heap[gb734]? = some (.cells #[.int .u64 a1_0, .int .u64 a1_1] 24 (0, 0))) ∧ Aside0 (wc.heap[gb739]? = some (.cells #[.int .u64 t736, .int .u64 t737] 24 (0, 0))) ∧ Aside0 (wc.heap[gb743]? = some (.cells #[.int .u64 t740, .int .u64 t741] 24 (0, 0))) ∧ Aside0 (Below w.heap.size w wc))
       case first =>
        have H := HC93.out
        clear HC93
        by_cases c94 : (Int.tmod a2 64) < 0
        ·
         rw [if_pos c94] at H
         have c94b0 : decide ((Int.tmod a2 64) < 0) = true := decide_eq_true c94
         clear c94
         (first | rw [c94b0] | (simp only [i64_w, i32_w]; rw [c94b0]) | skip)
         have H' := zA H
         clear H
         go_wp2
         go_meet
         case rel => exact ⟨_, (wrap64 (-(Int.tmod a2 64))), (by first | rfl | (simp; done) | (simp [*]; done)), H', ⟨by have := HJ7.out; have := HJ42.out; first | omega | exact Nat.le_refl _⟩, ⟨by (with_reducible repeat (first | refine zgq ?_ _ | refine zhq ?_ | refine ziq ?_ _)); exact BK733.out⟩, ⟨by (with_reducible repeat (first | refine zgq ?_ _ | refine zhq ?_ | refine ziq ?_ _)); exact BK734.out⟩, ⟨by (with_reducible repeat (first | refine zgq ?_ _ | refine zhq ?_ | refine ziq ?_ _)); exact BK739.out⟩, ⟨by (with_reducible repeat (first | refine zgq ?_ _ | refine zhq ?_ | refine ziq ?_ _)); exact BK743.out⟩, ⟨by repeat (first | (with_reducible first | exact HB.out | apply zaq | apply zbq | apply zcq | refine zdq ?_ GE733.out | refine zdq ?_ GE734.out | refine zdq ?_ GE739.out | refine zdq ?_ GE743.out) | exact HB.out)⟩⟩
        ·
         rw [if_neg c94] at H
         have c94b0 : decide ((Int.tmod a2 64) < 0) = false := decide_eq_false c94
         clear c94
         (first | rw [c94b0] | (simp only [i64_w, i32_w]; rw [c94b0]) | skip)
         have H' := zA H
         clear H
         go_wp2
         go_meet
         case rel => exact ⟨_, (Int.tmod a2 64), (by first | rfl | (simp; done) | (simp [*]; done)), H', ⟨by have := HJ7.out; have := HJ42.out; first | omega | exact Nat.le_refl _⟩, ⟨by (with_reducible repeat (first | refine zgq ?_ _ | refine zhq ?_ | refine ziq ?_ _)); exact BK733.out⟩, ⟨by (with_reducible repeat (first | refine zgq ?_ _ | refine zhq ?_ | refine ziq ?_ _)); exact BK734.out⟩, ⟨by (with_reducible repeat (first | refine zgq ?_ _ | refine zhq ?_ | refine ziq ?_ _)); exact BK739.out⟩, ⟨by (with_reducible repeat (first | refine zgq ?_ _ | refine zhq ?_ | refine ziq ?_ _)); exact BK743.out⟩, ⟨by repeat (first | (with_reducible first | exact HB.out | apply zaq | apply zbq | apply zcq | refine zdq ?_ GE733.out | refine zdq ?_ GE734.out | refine zdq ?_ GE739.out | refine zdq ?_ GE743.out) | exact HB.out)⟩⟩
       case rest =>
        clear HC93
        try clear c1
        try clear c2
        try clear p2
        try clear c3
        try clear c4
        try clear c5
        try clear c6
        try clear p6
        try clear c7
        try clear c8
        try clear c9
        try clear c12
        try clear c17
        try clear c18
        try clear c23
        try clear c24
        try clear c25
        try clear c27
        try clear c27b0
        try clear c28
        try clear c29
        try clear c30
        try clear c32
        try clear c33
        try clear c35
        try clear c36
        try clear c37
        try clear c39
        try clear c40
        try clear c41
        try clear c42
        try clear c43
        try clear c44
        try clear c45
        try clear c46
        try clear c48
        try clear c48b0
        try clear c53
        try clear c53b0
        try clear c53b1
        try clear c54
        try clear c55
        try clear c55b0
        try clear c56
        try clear c56b0
        try clear c57
        try clear c58
        try clear c59
        try clear c60
        try clear c61
        try clear c62
        try clear p64
        try clear c66
        try clear c67
        try clear c68
        try clear c69
        try clear c74
        try clear c75
        try clear c76
        try clear c77
        try clear c78
        try clear c83
        try clear c84
        try clear c85
        try clear c86
        try clear c87
        try clear c88
        try clear c94
        try clear c94b0
        try clear hcz13_0
        try clear hcz13_1
        try clear hcz14_0
        try clear hcz14_1
        try clear hcz19_0
        try clear hcz19_1
        try clear hcz20_0
        try clear hcz20_1
        try clear hcz26_0
        try clear hcz26_1
        try clear hcz31_0
        try clear hcz31_1
        try clear hcz34_0
        try clear hcz34_1
        try clear hcz38_0
        try clear hcz38_1
        try clear hcz41_0
        try clear hcz41_1
        try clear hcz47_0
        try clear hcz47_1
        try clear hcz60_0
        try clear hcz60_1
        try clear hcz63_0
        try clear hcz63_1
        try clear hcz70_0
        try clear hcz70_1
        try clear hcz71_0
        try clear hcz71_1
        try clear hcz79_0
        try clear hcz79_1
        try clear hcz79_2
        try clear hcz89_0
        try clear hcz89_1
        try clear hcz90_0
        try clear hcz90_1
        try clear hcz90_2
        try clear hcz91_0
        try clear hcz91_1
        try clear hcz92_0
        try clear hcz92_1
        try clear hfz13_0
        try clear hfz13_1
        try clear hfz14_0
        try clear hfz14_1
        try clear hfz19_0
        try clear hfz19_1
        try clear hfz20_0
        try clear hfz20_1
        try clear hfz26_0
        try clear hfz26_1
        try clear hfz31_0
        try clear hfz31_1
        try clear hfz34_0
        try clear hfz34_1
        try clear hfz38_0
        try clear hfz38_1
        try clear hfz41_0
        try clear hfz41_1
        try clear hfz47_0
        try clear hfz47_1
        try clear hfz60_0
        try clear hfz60_1
        try clear hfz63_0
        try clear hfz63_1
        try clear hfz70_0
        try clear hfz70_1
        try clear hfz71_0
        try clear hfz71_1
        try clear hfz79_0
        try clear hfz79_1
        try clear hfz79_2
        try clear hfz89_0
        try clear hfz89_1
        try clear hfz90_0
        try clear hfz90_1
        try clear hfz90_2
        try clear hfz91_0
        try clear hfz91_1
        try clear hfz92_0
        try clear hfz92_1
        try clear p2
        obtain ⟨kq, x18_92, rfl, HA, HJ92, BK733, BK734, BK739, BK743, HB⟩ := hcut
        cases kq with
        | zero => exact absurd HA.out (by simp [tabardlaw2_WideBack.j2])
        | succ kj92 =>
         have H := HA.out
         clear HA
         simp only [tabardlaw2_WideBack.j2] at H
         obtain ⟨ji95, hji95⟩ : ∃ j_ : Int, (IntKind.u64.wrap (x18_92)) = j_ := ⟨_, rfl⟩
         replace H : (if 0 ≤ (ji95) then ((wide_Times.f a0_0 a0_1 (shl .u64 1 (ji95))).bind fun bt759 => ((wide_Drop.f kj92 bt759.1 bt759.2.1 bt759.2.2 x18_92).bind fun bt762 => ((wide_Low.f bt762.1 bt762.2.1 bt762.2.2.1).bind fun bt767 => (if (!(bt767.1 == a0_0) || (!(bt767.2 == a0_1))) = true then (tabardlaw2_WideBack.j3 kj92 x18_92 true a0_0 a0_1) else (if bt762.1 = 0 then (tabardlaw2_WideBack.j3 kj92 x18_92 bt762.2.2.2 a0_0 a0_1) else (tabardlaw2_WideBack.j3 kj92 x18_92 true a0_0 a0_1)))))) else (none)) = some r := by first | (rw [hji95] at H; exact H) | (simp only [hji95] at H ⊢; exact H)
         by_cases c96 : 0 ≤ (ji95)
         ·
          rw [if_pos c96] at H
          have c96b0 := eq_true c96
          have c96b1 : decide (0 ≤ (ji95)) = true := decide_eq_true c96
          clear c96
          obtain ⟨ji97, hji97⟩ : ∃ j_ : Int, (shl .u64 1 (ji95)) = j_ := ⟨_, rfl⟩
          replace H : ((wide_Times.f a0_0 a0_1 (ji97)).bind fun bt759 => ((wide_Drop.f kj92 bt759.1 bt759.2.1 bt759.2.2 x18_92).bind fun bt762 => ((wide_Low.f bt762.1 bt762.2.1 bt762.2.2.1).bind fun bt767 => (if (!(bt767.1 == a0_0) || (!(bt767.2 == a0_1))) = true then (tabardlaw2_WideBack.j3 kj92 x18_92 true a0_0 a0_1) else (if bt762.1 = 0 then (tabardlaw2_WideBack.j3 kj92 x18_92 bt762.2.2.2 a0_0 a0_1) else (tabardlaw2_WideBack.j3 kj92 x18_92 true a0_0 a0_1)))))) = some r := by first | (rw [hji97] at H; exact H) | (simp only [hji97] at H ⊢; exact H)
          have hji97_ : (IntKind.u64.wrap (1 * 2 ^ min (ji95).toNat 64)) = ji97 := hji97
          have hji97z : (ji95) ≤ 64 → (IntKind.u64.wrap (1 * 2 ^ (ji95).toNat)) = ji97 := shl_small hji97
          have hji97u : (IntKind.u64.wrap (2 ^ min (ji95).toNat 64)) = ji97 := by have h_ := hji97_; rw [Int.one_mul] at h_; exact h_
          have hji97v : (ji95) ≤ 64 → (IntKind.u64.wrap (2 ^ (ji95).toNat)) = ji97 := fun hle_ => by have h_ := hji97z hle_; rw [Int.one_mul] at h_; exact h_
          replace H := Option.bind_eq_some_iff.mp H
          obtain ⟨⟨t759, t760, t761⟩, A980, H⟩ := H
          replace H : ((wide_Drop.f kj92 t759 t760 t761 x18_92).bind fun bt762 => ((wide_Low.f bt762.1 bt762.2.1 bt762.2.2.1).bind fun bt767 => (if (!(bt767.1 == a0_0) || (!(bt767.2 == a0_1))) = true then (tabardlaw2_WideBack.j3 kj92 x18_92 true a0_0 a0_1) else (if bt762.1 = 0 then (tabardlaw2_WideBack.j3 kj92 x18_92 bt762.2.2.2 a0_0 a0_1) else (tabardlaw2_WideBack.j3 kj92 x18_92 true a0_0 a0_1))))) = some r := H
          have A98 := zA A980
          clear A980
          replace H := Option.bind_eq_some_iff.mp H
          obtain ⟨⟨t762, t763, t764, t765⟩, A990, H⟩ := H
          replace H : ((wide_Low.f t762 t763 t764).bind fun bt767 => (if (!(bt767.1 == a0_0) || (!(bt767.2 == a0_1))) = true then (tabardlaw2_WideBack.j3 kj92 x18_92 true a0_0 a0_1) else (if t762 = 0 then (tabardlaw2_WideBack.j3 kj92 x18_92 t765 a0_0 a0_1) else (tabardlaw2_WideBack.j3 kj92 x18_92 true a0_0 a0_1)))) = some r := H
          have A99 := zA A990
          clear A990
          have HC100 := zA H
          clear H
          have hnb101 := NB733_734.out
          have hnc101 := NB734_733.out
          have hnb102 := NB733_739.out
          have hnc102 := NB739_733.out
          have hnb103 := NB733_743.out
          have hnc103 := NB743_733.out
          have hcz104_0 : wc.cell? ⟨gb733, 0, none⟩ = some (.int .u64 a0_0) := (zmq BK733.out 0).trans rfl
          have hcz104_1 : wc.cell? ⟨gb733, 1, none⟩ = some (.int .u64 a0_1) := (zmq BK733.out 1).trans rfl
          have hfz104_0 := znq BK733.out 0
          have hfz104_1 := znq BK733.out 1
          go_upto_region 18 with (first | ((with_reducible refine zoq (f := 60) rfl ?_); refine goesL_ (some 97) rfl rfl Try.func60 (by kernel_rfl) rfl #[.agg #[.int .u64 a0_0, .int .u64 a0_1], .int .u64 ji97] rfl (by (try simp only [List.map_toArray, List.map_cons, List.map_nil]); first | done | (simp only [hji97]; rfl) | rfl | (simp only [List.length_drop, List.length_take]; rfl)) ?_; (with_reducible refine (wide_Times.calls a0_0 a0_1 ji97 t759 t760 t761 _ A98.out).mono ?_); rintro e w105 ⟨rfl, hb⟩; refine ⟨_, rfl, ?_⟩; have n0_ := zA (zlq (g := gb733) (o := .cells #[.int .u64 a0_0, .int .u64 a0_1] 24 (0, 0)) (by (with_reducible repeat (first | refine zgq ?_ _ | refine zhq ?_ | refine ziq ?_ _)); exact BK733.out) hb); have n1_ := zA (zlq (g := gb734) (o := .cells #[.int .u64 a1_0, .int .u64 a1_1] 24 (0, 0)) (by (with_reducible repeat (first | refine zgq ?_ _ | refine zhq ?_ | refine ziq ?_ _)); exact BK734.out) hb); have n2_ := zA (zlq (g := gb739) (o := .cells #[.int .u64 t736, .int .u64 t737] 24 (0, 0)) (by (with_reducible repeat (first | refine zgq ?_ _ | refine zhq ?_ | refine ziq ?_ _)); exact BK739.out) hb); have n3_ := zA (zlq (g := gb743) (o := .cells #[.int .u64 t740, .int .u64 t741] 24 (0, 0)) (by (with_reducible repeat (first | refine zgq ?_ _ | refine zhq ?_ | refine ziq ?_ _)); exact BK743.out) hb); have n4_ := zA (zeq (by repeat (first | (with_reducible first | exact HB.out | apply zaq | apply zbq | apply zcq | refine zdq ?_ GE733.out | refine zdq ?_ GE734.out | refine zdq ?_ GE739.out | refine zdq ?_ GE743.out) | exact HB.out)) hb); clear BK733; clear BK734; clear BK739; clear BK743; clear HB; have BK733 := n0_; have BK734 := n1_; have BK739 := n2_; have BK743 := n3_; have HB := n4_; clear n0_ n1_ n2_ n3_ n4_; (try clear hb); (try clear hb2); (try clear hk); (try clear hi)) | ((with_reducible refine zoq (f := 61) rfl ?_); refine goesL_ (some 99) rfl rfl Try.func61 (by kernel_rfl) rfl #[.agg #[.int .u64 t759, .int .u64 t760, .int .u64 t761], .int .i64 x18_92] rfl (by (try simp only [List.map_toArray, List.map_cons, List.map_nil]); first | done | rfl | (simp only [List.length_drop, List.length_take]; rfl)) ?_; (with_reducible refine (wide_Drop.calls kj92 t759 t760 t761 x18_92 t762 t763 t764 t765 _ A99.out).mono ?_); rintro e w106 ⟨rfl, hb⟩; refine ⟨_, rfl, ?_⟩; have n0_ := zA (zlq (g := gb733) (o := .cells #[.int .u64 a0_0, .int .u64 a0_1] 24 (0, 0)) (by (with_reducible repeat (first | refine zgq ?_ _ | refine zhq ?_ | refine ziq ?_ _)); exact BK733.out) hb); have n1_ := zA (zlq (g := gb734) (o := .cells #[.int .u64 a1_0, .int .u64 a1_1] 24 (0, 0)) (by (with_reducible repeat (first | refine zgq ?_ _ | refine zhq ?_ | refine ziq ?_ _)); exact BK734.out) hb); have n2_ := zA (zlq (g := gb739) (o := .cells #[.int .u64 t736, .int .u64 t737] 24 (0, 0)) (by (with_reducible repeat (first | refine zgq ?_ _ | refine zhq ?_ | refine ziq ?_ _)); exact BK739.out) hb); have n3_ := zA (zlq (g := gb743) (o := .cells #[.int .u64 t740, .int .u64 t741] 24 (0, 0)) (by (with_reducible repeat (first | refine zgq ?_ _ | refine zhq ?_ | refine ziq ?_ _)); exact BK743.out) hb); have n4_ := zA (zeq (by repeat (first | (with_reducible first | exact HB.out | apply zaq | apply zbq | apply zcq | refine zdq ?_ GE733.out | refine zdq ?_ GE734.out | refine zdq ?_ GE739.out | refine zdq ?_ GE743.out) | exact HB.out)) hb); clear BK733; clear BK734; clear BK739; clear BK743; clear HB; have BK733 := n0_; have BK734 := n1_; have BK739 := n2_; have BK743 := n3_; have HB := n4_; clear n0_ n1_ n2_ n3_ n4_; (try clear hb); (try clear hb2); (try clear hk); (try clear hi)) | ((with_reducible refine zpq (N := 19) rfl ?_); refine zqq ?hg (N := 19) ?hd (cs := #[.int .u64 0, .int .u64 0, .int .u64 0]) (t := 69) ?hr ?_; (case hd => rfl); (case hg => rfl); (case hr => first | (go_simp; done) | (go_simp; rfl)); intro gb766 hg w107 hbox hb; have n0_ := zA (zlq (g := gb733) (o := .cells #[.int .u64 a0_0, .int .u64 a0_1] 24 (0, 0)) (by (with_reducible repeat (first | refine zgq ?_ _ | refine zhq ?_ | refine ziq ?_ _)); exact BK733.out) hb); have n1_ := zA (zlq (g := gb734) (o := .cells #[.int .u64 a1_0, .int .u64 a1_1] 24 (0, 0)) (by (with_reducible repeat (first | refine zgq ?_ _ | refine zhq ?_ | refine ziq ?_ _)); exact BK734.out) hb); have n2_ := zA (zlq (g := gb739) (o := .cells #[.int .u64 t736, .int .u64 t737] 24 (0, 0)) (by (with_reducible repeat (first | refine zgq ?_ _ | refine zhq ?_ | refine ziq ?_ _)); exact BK739.out) hb); have n3_ := zA (zlq (g := gb743) (o := .cells #[.int .u64 t740, .int .u64 t741] 24 (0, 0)) (by (with_reducible repeat (first | refine zgq ?_ _ | refine zhq ?_ | refine ziq ?_ _)); exact BK743.out) hb); have n4_ := zA (zeq (by repeat (first | (with_reducible first | exact HB.out | apply zaq | apply zbq | apply zcq | refine zdq ?_ GE733.out | refine zdq ?_ GE734.out | refine zdq ?_ GE739.out | refine zdq ?_ GE743.out) | exact HB.out)) hb); have n5_ := zA (hbox); have n6_ := zA ((by rw [hg]; exact (zfq (by repeat (first | (with_reducible first | exact HB.out | apply zaq | apply zbq | apply zcq | refine zdq ?_ GE733.out | refine zdq ?_ GE734.out | refine zdq ?_ GE739.out | refine zdq ?_ GE743.out) | exact HB.out))) : w.heap.size ≤ gb766)); have n7_ := zA ((by rw [hg]; exact (zfq (by repeat (first | (with_reducible first | exact HB.out | apply zaq | apply zbq | apply zcq | refine zdq ?_ GE733.out | refine zdq ?_ GE734.out | refine zdq ?_ GE739.out | refine zdq ?_ GE743.out) | exact HB.out))) : w.heap.size ≤ gb766)); have n8_ := zA ((by rw [hg]; exact Nat.ne_of_lt (blk_lt (g := gb733) (o := .cells #[.int .u64 a0_0, .int .u64 a0_1] 24 (0, 0)) (by (with_reducible repeat (first | refine zgq ?_ _ | refine zhq ?_ | refine ziq ?_ _)); exact BK733.out)) : gb733 ≠ gb766)); have n9_ := zA ((by rw [hg]; exact Nat.ne_of_gt (blk_lt (g := gb733) (o := .cells #[.int .u64 a0_0, .int .u64 a0_1] 24 (0, 0)) (by (with_reducible repeat (first | refine zgq ?_ _ | refine zhq ?_ | refine ziq ?_ _)); exact BK733.out)) : gb766 ≠ gb733)); have n10_ := zA ((by rw [hg]; exact Nat.ne_of_lt (blk_lt (g := gb734) (o := .cells #[.int .u64 a1_0, .int .u64 a1_1] 24 (0, 0)) (by (with_reducible repeat (first | refine zgq ?_ _ | refine zhq ?_ | refine ziq ?_ _)); exact BK734.out)) : gb734 ≠ gb766)); have n11_ := zA ((by rw [hg]; exact Nat.ne_of_gt (blk_lt (g := gb734) (o := .cells #[.int .u64 a1_0, .int .u64 a1_1] 24 (0, 0)) (by (with_reducible repeat (first | refine zgq ?_ _ | refine zhq ?_ | refine ziq ?_ _)); exact BK734.out)) : gb766 ≠ gb734)); have n12_ := zA ((by rw [hg]; exact Nat.ne_of_lt (blk_lt (g := gb739) (o := .cells #[.int .u64 t736, .int .u64 t737] 24 (0, 0)) (by (with_reducible repeat (first | refine zgq ?_ _ | refine zhq ?_ | refine ziq ?_ _)); exact BK739.out)) : gb739 ≠ gb766)); have n13_ := zA ((by rw [hg]; exact Nat.ne_of_gt (blk_lt (g := gb739) (o := .cells #[.int .u64 t736, .int .u64 t737] 24 (0, 0)) (by (with_reducible repeat (first | refine zgq ?_ _ | refine zhq ?_ | refine ziq ?_ _)); exact BK739.out)) : gb766 ≠ gb739)); have n14_ := zA ((by rw [hg]; exact Nat.ne_of_lt (blk_lt (g := gb743) (o := .cells #[.int .u64 t740, .int .u64 t741] 24 (0, 0)) (by (with_reducible repeat (first | refine zgq ?_ _ | refine zhq ?_ | refine ziq ?_ _)); exact BK743.out)) : gb743 ≠ gb766)); have n15_ := zA ((by rw [hg]; exact Nat.ne_of_gt (blk_lt (g := gb743) (o := .cells #[.int .u64 t740, .int .u64 t741] 24 (0, 0)) (by (with_reducible repeat (first | refine zgq ?_ _ | refine zhq ?_ | refine ziq ?_ _)); exact BK743.out)) : gb766 ≠ gb743)); clear BK733; clear BK734; clear BK739; clear BK743; clear HB; have BK733 := n0_; have BK734 := n1_; have BK739 := n2_; have BK743 := n3_; have HB := n4_; have BK766 := n5_; have GW766 := n6_; have GE766 := n7_; have NB733_766 := n8_; have NB766_733 := n9_; have NB734_766 := n10_; have NB766_734 := n11_; have NB739_766 := n12_; have NB766_739 := n13_; have NB743_766 := n14_; have NB766_743 := n15_; clear n0_ n1_ n2_ n3_ n4_ n5_ n6_ n7_ n8_ n9_ n10_ n11_ n12_ n13_ n14_ n15_; clear hb hbox hg; have hnb108 := NB766_733.out; have hnc108 := NB733_766.out; have hnb109 := NB766_734.out; have hnc109 := NB734_766.out; have hnb110 := NB766_739.out; have hnc110 := NB739_766.out; have hnb111 := NB766_743.out; have hnc111 := NB743_766.out; have hcz112_0 : w107.cell? ⟨gb766, 0, none⟩ = some (.int .u64 0) := (zmq BK766.out 0).trans rfl; have hcz112_1 : w107.cell? ⟨gb766, 1, none⟩ = some (.int .u64 0) := (zmq BK766.out 1).trans rfl; have hcz112_2 : w107.cell? ⟨gb766, 2, none⟩ = some (.int .u64 0) := (zmq BK766.out 2).trans rfl; have hfz112_0 := znq BK766.out 0; have hfz112_1 := znq BK766.out 1; have hfz112_2 := znq BK766.out 2))
          (try simp only [Act.put, List.setIfInBounds_toArray, List.set_cons_zero, List.set_cons_succ])
          go_cut [113] (fun v113 wc => ∃ (kq : Nat) (x113_99 : Bool), v113 = .bool x113_99 ∧ Aside0 (tabardlaw2_WideBack.j3 kq x18_92 x113_99 a0_0 a0_1 = some r) ∧ Aside0 (kq ≤ kj92) ∧ Aside0 (wc.heap[gb733]? = some (.cells #[.int .u64 a0_0, .int .u64 a0_1] 24 (0, 0))) ∧ Aside0 (wc.heap[gb734]? = some (.cells #[.int .u64 a1_0, .int .u64 a1_1] 24 (0, 0))) ∧ Aside0 (wc.heap[gb739]? = some (.cells #[.int .u64 t736, .int .u64 t737] 24 (0, 0))) ∧ Aside0 (wc.heap[gb743]? = some (.cells #[.int .u64 t740, .int .u64 t741] 24 (0, 0))) ∧ Aside0 (wc.heap[gb766]? = some (.cells #[.int .u64 t762, .int .u64 t763, .int .u64 t764] 69 (0, 0))) ∧ Aside0 (Below w.heap.size w wc))
          case first =>
           have H := HC100.out
           clear HC100
           replace H := Option.bind_eq_some_iff.mp H
           obtain ⟨⟨t767, t768⟩, A1130, H⟩ := H
           replace H : (if (!(t767 == a0_0) || (!(t768 == a0_1))) = true then (tabardlaw2_WideBack.j3 kj92 x18_92 true a0_0 a0_1) else (if t762 = 0 then (tabardlaw2_WideBack.j3 kj92 x18_92 t765 a0_0 a0_1) else (tabardlaw2_WideBack.j3 kj92 x18_92 true a0_0 a0_1))) = some r := H
           have A113 := zA A1130
           clear A1130
           by_cases c114 : (!(t767 == a0_0) || (!(t768 == a0_1))) = true
           ·
            rw [if_pos c114] at H
            have c114b0 : (!(t767 == a0_0) || (!(t768 == a0_1))) = true := c114
            clear c114
            (first | rw [c114b0] | (simp only [i64_w, i32_w]; rw [c114b0]) | skip)
            have H' := zA H
            clear H
            try go_wp2
            have n0_ : Aside0 ((((w107.setCell ⟨gb766, 0, none⟩ (.int .u64 t762)).setCell ⟨gb766, 1, none⟩ (.int .u64 t763)).setCell ⟨gb766, 2, none⟩ (.int .u64 t764)).heap[gb733]? = some (.cells #[.int .u64 a0_0, .int .u64 a0_1] 24 (0, 0))) := ⟨by (with_reducible repeat (first | refine zgq ?_ _ | refine zhq ?_ | refine ziq ?_ _)); refine zjq ?_ NB733_766.out _; (with_reducible repeat (first | refine zgq ?_ _ | refine zhq ?_ | refine ziq ?_ _)); refine zjq ?_ NB733_766.out _; (with_reducible repeat (first | refine zgq ?_ _ | refine zhq ?_ | refine ziq ?_ _)); refine zjq ?_ NB733_766.out _; (with_reducible repeat (first | refine zgq ?_ _ | refine zhq ?_ | refine ziq ?_ _)); exact BK733.out⟩
            have n1_ : Aside0 ((((w107.setCell ⟨gb766, 0, none⟩ (.int .u64 t762)).setCell ⟨gb766, 1, none⟩ (.int .u64 t763)).setCell ⟨gb766, 2, none⟩ (.int .u64 t764)).heap[gb734]? = some (.cells #[.int .u64 a1_0, .int .u64 a1_1] 24 (0, 0))) := ⟨by (with_reducible repeat (first | refine zgq ?_ _ | refine zhq ?_ | refine ziq ?_ _)); refine zjq ?_ NB734_766.out _; (with_reducible repeat (first | refine zgq ?_ _ | refine zhq ?_ | refine ziq ?_ _)); refine zjq ?_ NB734_766.out _; (with_reducible repeat (first | refine zgq ?_ _ | refine zhq ?_ | refine ziq ?_ _)); refine zjq ?_ NB734_766.out _; (with_reducible repeat (first | refine zgq ?_ _ | refine zhq ?_ | refine ziq ?_ _)); exact BK734.out⟩
            have n2_ : Aside0 ((((w107.setCell ⟨gb766, 0, none⟩ (.int .u64 t762)).setCell ⟨gb766, 1, none⟩ (.int .u64 t763)).setCell ⟨gb766, 2, none⟩ (.int .u64 t764)).heap[gb739]? = some (.cells #[.int .u64 t736, .int .u64 t737] 24 (0, 0))) := ⟨by (with_reducible repeat (first | refine zgq ?_ _ | refine zhq ?_ | refine ziq ?_ _)); refine zjq ?_ NB739_766.out _; (with_reducible repeat (first | refine zgq ?_ _ | refine zhq ?_ | refine ziq ?_ _)); refine zjq ?_ NB739_766.out _; (with_reducible repeat (first | refine zgq ?_ _ | refine zhq ?_ | refine ziq ?_ _)); refine zjq ?_ NB739_766.out _; (with_reducible repeat (first | refine zgq ?_ _ | refine zhq ?_ | refine ziq ?_ _)); exact BK739.out⟩
            have n3_ : Aside0 ((((w107.setCell ⟨gb766, 0, none⟩ (.int .u64 t762)).setCell ⟨gb766, 1, none⟩ (.int .u64 t763)).setCell ⟨gb766, 2, none⟩ (.int .u64 t764)).heap[gb743]? = some (.cells #[.int .u64 t740, .int .u64 t741] 24 (0, 0))) := ⟨by (with_reducible repeat (first | refine zgq ?_ _ | refine zhq ?_ | refine ziq ?_ _)); refine zjq ?_ NB743_766.out _; (with_reducible repeat (first | refine zgq ?_ _ | refine zhq ?_ | refine ziq ?_ _)); refine zjq ?_ NB743_766.out _; (with_reducible repeat (first | refine zgq ?_ _ | refine zhq ?_ | refine ziq ?_ _)); refine zjq ?_ NB743_766.out _; (with_reducible repeat (first | refine zgq ?_ _ | refine zhq ?_ | refine ziq ?_ _)); exact BK743.out⟩
            have n4_ : Aside0 ((((w107.setCell ⟨gb766, 0, none⟩ (.int .u64 t762)).setCell ⟨gb766, 1, none⟩ (.int .u64 t763)).setCell ⟨gb766, 2, none⟩ (.int .u64 t764)).heap[gb766]? = some (.cells #[.int .u64 t762, .int .u64 t763, .int .u64 t764] 69 (0, 0))) := ⟨by (with_reducible repeat (first | refine zgq ?_ _ | refine zhq ?_ | refine ziq ?_ _)); refine zkq (cs := #[.int .u64 t762, .int .u64 t763, .int .u64 0]) ?_ 2 _ rfl; (with_reducible repeat (first | refine zgq ?_ _ | refine zhq ?_ | refine ziq ?_ _)); refine zkq (cs := #[.int .u64 t762, .int .u64 0, .int .u64 0]) ?_ 1 _ rfl; (with_reducible repeat (first | refine zgq ?_ _ | refine zhq ?_ | refine ziq ?_ _)); refine zkq (cs := #[.int .u64 0, .int .u64 0, .int .u64 0]) ?_ 0 _ rfl; (with_reducible repeat (first | refine zgq ?_ _ | refine zhq ?_ | refine ziq ?_ _)); exact BK766.out⟩
            have n5_ : Aside0 (Below w.heap.size w (((w107.setCell ⟨gb766, 0, none⟩ (.int .u64 t762)).setCell ⟨gb766, 1, none⟩ (.int .u64 t763)).setCell ⟨gb766, 2, none⟩ (.int .u64 t764))) := ⟨by repeat (first | (with_reducible first | exact HB.out | apply zaq | apply zbq | apply zcq | refine zdq ?_ GE733.out | refine zdq ?_ GE734.out | refine zdq ?_ GE739.out | refine zdq ?_ GE743.out | refine zdq ?_ GE766.out) | exact HB.out)⟩
            (try clear BK733)
            (try clear BK734)
            (try clear BK739)
            (try clear BK743)
            (try clear BK766)
            (try clear HB)
            generalize (((w107.setCell ⟨gb766, 0, none⟩ (.int .u64 t762)).setCell ⟨gb766, 1, none⟩ (.int .u64 t763)).setCell ⟨gb766, 2, none⟩ (.int .u64 t764)) = w115 at n0_ n1_ n2_ n3_ n4_ n5_ ⊢
            have BK733 := n0_
            have BK734 := n1_
            have BK739 := n2_
            have BK743 := n3_
            have BK766 := n4_
            have HB := n5_
            clear n0_ n1_ n2_ n3_ n4_ n5_
            have n0_ := zA (zhq BK733.out)
            have n1_ := zA (zhq BK734.out)
            have n2_ := zA (zhq BK739.out)
            have n3_ := zA (zhq BK743.out)
            have n4_ := zA (zhq BK766.out)
            have n5_ := zA (zcq HB.out)
            clear BK733
            clear BK734
            clear BK739
            clear BK743
            clear BK766
            clear HB
            have BK733 := n0_
            have BK734 := n1_
            have BK739 := n2_
            have BK743 := n3_
            have BK766 := n4_
            have HB := n5_
            clear n0_ n1_ n2_ n3_ n4_ n5_
            refine start_ (n := 12) (S := fun w' => w'.cell? ⟨gb766, 0, none⟩ = some (.int .u64 t762) ∧ w'.cell? ⟨gb766, 1, none⟩ = some (.int .u64 t763) ∧ w'.cell? ⟨gb766, 2, none⟩ = some (.int .u64 t764) ∧ w'.cell? ⟨gb733, 0, none⟩ = some (.int .u64 a0_0) ∧ w'.cell? ⟨gb733, 1, none⟩ = some (.int .u64 a0_1)) (ds := []) #[false, false, false, false, false, false, false, false, false, false, false, false] (by kernel_rfl) rfl rfl ⟨(zmq BK766.out 0).trans rfl, (zmq BK766.out 1).trans rfl, (zmq BK766.out 2).trans rfl, (zmq BK733.out 0).trans rfl, (zmq BK733.out 1).trans rfl⟩ (fun hHeld => ?_); refine with_tabW tabardlaw2_WideBack.tab18 tabardlaw2_WideBack.bits18 (fun HT_ HW_ => ?_)
            generalize w115.drew = w116 at BK733 BK734 BK739 BK743 BK766 HB hHeld ⊢
            refine take_ (i := 0) (N := some 102) (v := ?_) (a' := ?_) #[true, false, false, false, false, false, false, false, false, false, false, false] rfl rfl (take_ofW HT_.out HW_.out (by kernel_rfl)) (fun _ _ _ h => h) (Or.inl ⟨by rfl, ?_⟩) hHeld ?_ ?_
            rotate_left
            ·
             rintro w' ⟨s0, s1, s2, s3, s4⟩
             go_simp
             with_reducible rfl
            rotate_left
            ·
             simp only [Act.put, List.setIfInBounds_toArray, List.set_cons_zero, List.set_cons_succ, i64_w, i32_w]
             rfl
            refine take_ (i := 2) (N := some 104) (v := ?_) (a' := ?_) #[true, false, true, false, false, false, false, false, false, false, false, false] rfl rfl (take_ofW HT_.out HW_.out (by kernel_rfl)) (fun _ _ _ h => h) (Or.inl ⟨by rfl, ?_⟩) hHeld ?_ ?_
            rotate_left
            ·
             rintro w' ⟨s0, s1, s2, s3, s4⟩
             go_simp
             with_reducible rfl
            rotate_left
            ·
             simp only [Act.put, List.setIfInBounds_toArray, List.set_cons_zero, List.set_cons_succ, i64_w, i32_w]
             rfl
            refine one_ (i := 1) (N := some 103) #[true, true, true, false, false, false, false, false, false, false, false, false] rfl rfl (one_of HT_.out (by kernel_rfl)) (by decide) (fun K hK => ?_)
            refine goes_ Try.func62 (by kernel_rfl) rfl #[.agg #[.int .u64 t762, .int .u64 t763, .int .u64 t764]] (by rfl) rfl rfl (by (try simp only [List.map_toArray, List.map_cons, List.map_nil]); first | done | rfl | (simp only [List.length_drop, List.length_take]; rfl)) ?_
            with_reducible refine (wide_Low.calls t762 t763 t764 t767 t768 _ A113.out).mono ?_
            rintro e w117 ⟨rfl, hb⟩
            refine ⟨_, rfl, ?_⟩
            have n0_ := zA (zlq (g := gb733) (o := .cells #[.int .u64 a0_0, .int .u64 a0_1] 24 (0, 0)) (by (with_reducible repeat (first | refine zgq ?_ _ | refine zhq ?_ | refine ziq ?_ _)); exact BK733.out) hb)
            have n1_ := zA (zlq (g := gb734) (o := .cells #[.int .u64 a1_0, .int .u64 a1_1] 24 (0, 0)) (by (with_reducible repeat (first | refine zgq ?_ _ | refine zhq ?_ | refine ziq ?_ _)); exact BK734.out) hb)
            have n2_ := zA (zlq (g := gb739) (o := .cells #[.int .u64 t736, .int .u64 t737] 24 (0, 0)) (by (with_reducible repeat (first | refine zgq ?_ _ | refine zhq ?_ | refine ziq ?_ _)); exact BK739.out) hb)
            have n3_ := zA (zlq (g := gb743) (o := .cells #[.int .u64 t740, .int .u64 t741] 24 (0, 0)) (by (with_reducible repeat (first | refine zgq ?_ _ | refine zhq ?_ | refine ziq ?_ _)); exact BK743.out) hb)
            have n4_ := zA (zlq (g := gb766) (o := .cells #[.int .u64 t762, .int .u64 t763, .int .u64 t764] 69 (0, 0)) (by (with_reducible repeat (first | refine zgq ?_ _ | refine zhq ?_ | refine ziq ?_ _)); exact BK766.out) hb)
            have n5_ := zA (zeq (by repeat (first | (with_reducible first | exact HB.out | apply zaq | apply zbq | apply zcq | refine zdq ?_ GE733.out | refine zdq ?_ GE734.out | refine zdq ?_ GE739.out | refine zdq ?_ GE743.out | refine zdq ?_ GE766.out) | exact HB.out)) hb)
            clear BK733
            clear BK734
            clear BK739
            clear BK743
            clear BK766
            clear HB
            have BK733 := n0_
            have BK734 := n1_
            have BK739 := n2_
            have BK743 := n3_
            have BK766 := n4_
            have HB := n5_
            clear n0_ n1_ n2_ n3_ n4_ n5_
            (try clear hb)
            (try clear hb2)
            (try clear hk)
            (try clear hi)
            refine hK.out _ _ ⟨(zmq BK766.out 0).trans rfl, (zmq BK766.out 1).trans rfl, (zmq BK766.out 2).trans rfl, (zmq BK733.out 0).trans rfl, (zmq BK733.out 1).trans rfl⟩ (fun hHeld => ?_)
            clear hK K
            refine norm_ (a' := ?_) ?_ ?_
            rotate_left
            ·
             show Act.put _ (some 103) _ = _
             simp only [Act.put, List.setIfInBounds_toArray, List.set_cons_zero, List.set_cons_succ, i64_w, i32_w]
             rfl
            refine pure_ (i := 3) (N := some 105) (v := ?_) (a' := ?_) #[true, true, true, true, false, false, false, false, false, false, false, false] rfl rfl (any_of HT_.out (by kernel_rfl)) (fun _ _ _ h => h) (Or.inl ⟨by rfl, ?_⟩) ?_ ?_
            rotate_left
            ·
             intro w'
             go_simp
             with_reducible rfl
            rotate_left
            ·
             simp only [Act.put, List.setIfInBounds_toArray, List.set_cons_zero, List.set_cons_succ, i64_w, i32_w]
             rfl
            refine pure_ (i := 4) (N := some 106) (v := ?_) (a' := ?_) #[true, true, true, true, true, false, false, false, false, false, false, false] rfl rfl (any_of HT_.out (by kernel_rfl)) (fun _ _ _ h => h) (Or.inl ⟨by rfl, ?_⟩) ?_ ?_
            rotate_left
            ·
             intro w'
             go_simp
             with_reducible rfl
            rotate_left
            ·
             simp only [Act.put, List.setIfInBounds_toArray, List.set_cons_zero, List.set_cons_succ, i64_w, i32_w]
             rfl
            refine pure_ (i := 5) (N := some 107) (v := undef) (a' := ?_) #[true, true, true, true, true, true, false, false, false, false, false, false] rfl rfl (any_of HT_.out (by kernel_rfl)) (fun _ _ _ h => h) (Or.inr ⟨by rfl, rfl⟩) ?_ ?_
            rotate_left
            ·
             simp only [Act.put, List.setIfInBounds_toArray, List.set_cons_zero, List.set_cons_succ, i64_w, i32_w]
             rfl
            refine pure_ (i := 6) (N := some 108) (v := undef) (a' := ?_) #[true, true, true, true, true, true, true, false, false, false, false, false] rfl rfl (any_of HT_.out (by kernel_rfl)) (fun _ _ _ h => h) (Or.inr ⟨by rfl, rfl⟩) ?_ ?_
            rotate_left
            ·
             simp only [Act.put, List.setIfInBounds_toArray, List.set_cons_zero, List.set_cons_succ, i64_w, i32_w]
             rfl
            refine pure_ (i := 7) (N := some 109) (v := undef) (a' := ?_) #[true, true, true, true, true, true, true, true, false, false, false, false] rfl rfl (any_of HT_.out (by kernel_rfl)) (fun _ _ _ h => h) (Or.inr ⟨by rfl, rfl⟩) ?_ ?_
            rotate_left
            ·
             simp only [Act.put, List.setIfInBounds_toArray, List.set_cons_zero, List.set_cons_succ, i64_w, i32_w]
             rfl
            refine pure_ (i := 8) (N := some 110) (v := ?_) (a' := ?_) #[true, true, true, true, true, true, true, true, true, false, false, false] rfl rfl (any_of HT_.out (by kernel_rfl)) (fun _ _ _ h => h) (Or.inl ⟨by rfl, ?_⟩) ?_ ?_
            rotate_left
            ·
             intro w'
             go_simp
             with_reducible rfl
            rotate_left
            ·
             simp only [Act.put, List.setIfInBounds_toArray, List.set_cons_zero, List.set_cons_succ, i64_w, i32_w]
             rfl
            refine pure_ (i := 9) (N := some 111) (v := ?_) (a' := ?_) #[true, true, true, true, true, true, true, true, true, true, false, false] rfl rfl (any_of HT_.out (by kernel_rfl)) (fun _ _ _ h => h) (Or.inl ⟨by rfl, ?_⟩) ?_ ?_
            rotate_left
            ·
             intro w'
             go_simp
             with_reducible rfl
            rotate_left
            ·
             simp only [Act.put, List.setIfInBounds_toArray, List.set_cons_zero, List.set_cons_succ, i64_w, i32_w]
             rfl
            refine pure_ (i := 10) (N := some 112) (v := undef) (a' := ?_) #[true, true, true, true, true, true, true, true, true, true, true, false] rfl rfl (any_of HT_.out (by kernel_rfl)) (fun _ _ _ h => h) (Or.inr ⟨by rfl, rfl⟩) ?_ ?_
            rotate_left
            ·
             simp only [Act.put, List.setIfInBounds_toArray, List.set_cons_zero, List.set_cons_succ, i64_w, i32_w]
             rfl
            refine pure_ (i := 11) (N := some 113) (v := ?_) (a' := ?_) #[true, true, true, true, true, true, true, true, true, true, true, true] rfl rfl (any_of HT_.out (by kernel_rfl)) (fun _ _ _ h => h) (Or.inl ⟨by rfl, ?_⟩) ?_ ?_
            rotate_left
            ·
             intro w'
             go_simp
             with_reducible rfl
            rotate_left
            ·
             simp only [Act.put, List.setIfInBounds_toArray, List.set_cons_zero, List.set_cons_succ, i64_w, i32_w]
             rfl
            refine done_ (done_of HT_.out (by kernel_rfl)) ?_
            try go_wp2
            go_meet
            case rel => exact ⟨_, (true), (by first | rfl | (simp; done) | (simp [*]; done)), H', ⟨by have := HJ7.out; have := HJ42.out; have := HJ92.out; first | omega | exact Nat.le_refl _⟩, ⟨by (with_reducible repeat (first | refine zgq ?_ _ | refine zhq ?_ | refine ziq ?_ _)); exact BK733.out⟩, ⟨by (with_reducible repeat (first | refine zgq ?_ _ | refine zhq ?_ | refine ziq ?_ _)); exact BK734.out⟩, ⟨by (with_reducible repeat (first | refine zgq ?_ _ | refine zhq ?_ | refine ziq ?_ _)); exact BK739.out⟩, ⟨by (with_reducible repeat (first | refine zgq ?_ _ | refine zhq ?_ | refine ziq ?_ _)); exact BK743.out⟩, ⟨by (with_reducible repeat (first | refine zgq ?_ _ | refine zhq ?_ | refine ziq ?_ _)); exact BK766.out⟩, ⟨by repeat (first | (with_reducible first | exact HB.out | apply zaq | apply zbq | apply zcq | refine zdq ?_ GE733.out | refine zdq ?_ GE734.out | refine zdq ?_ GE739.out | refine zdq ?_ GE743.out | refine zdq ?_ GE766.out) | exact HB.out)⟩⟩
           ·
            rw [if_neg c114] at H
            have c114b0 : (!(t767 == a0_0) || (!(t768 == a0_1))) = false := by simpa using c114
            clear c114
            (first | rw [c114b0] | (simp only [i64_w, i32_w]; rw [c114b0]) | skip)
            by_cases c118 : t762 = 0
            ·
             rw [if_pos c118] at H
             have c118b0 : (t762 == 0) = true := beq_iff_eq.mpr c118
             have c118b1 : (t762 != 0) = false := bne_eq_false_iff_eq.mpr c118
             clear c118
             have H' := zA H
             clear H
             try go_wp2
             have n0_ : Aside0 ((((w107.setCell ⟨gb766, 0, none⟩ (.int .u64 t762)).setCell ⟨gb766, 1, none⟩ (.int .u64 t763)).setCell ⟨gb766, 2, none⟩ (.int .u64 t764)).heap[gb733]? = some (.cells #[.int .u64 a0_0, .int .u64 a0_1] 24 (0, 0))) := ⟨by (with_reducible repeat (first | refine zgq ?_ _ | refine zhq ?_ | refine ziq ?_ _)); refine zjq ?_ NB733_766.out _; (with_reducible repeat (first | refine zgq ?_ _ | refine zhq ?_ | refine ziq ?_ _)); refine zjq ?_ NB733_766.out _; (with_reducible repeat (first | refine zgq ?_ _ | refine zhq ?_ | refine ziq ?_ _)); refine zjq ?_ NB733_766.out _; (with_reducible repeat (first | refine zgq ?_ _ | refine zhq ?_ | refine ziq ?_ _)); exact BK733.out⟩
             have n1_ : Aside0 ((((w107.setCell ⟨gb766, 0, none⟩ (.int .u64 t762)).setCell ⟨gb766, 1, none⟩ (.int .u64 t763)).setCell ⟨gb766, 2, none⟩ (.int .u64 t764)).heap[gb734]? = some (.cells #[.int .u64 a1_0, .int .u64 a1_1] 24 (0, 0))) := ⟨by (with_reducible repeat (first | refine zgq ?_ _ | refine zhq ?_ | refine ziq ?_ _)); refine zjq ?_ NB734_766.out _; (with_reducible repeat (first | refine zgq ?_ _ | refine zhq ?_ | refine ziq ?_ _)); refine zjq ?_ NB734_766.out _; (with_reducible repeat (first | refine zgq ?_ _ | refine zhq ?_ | refine ziq ?_ _)); refine zjq ?_ NB734_766.out _; (with_reducible repeat (first | refine zgq ?_ _ | refine zhq ?_ | refine ziq ?_ _)); exact BK734.out⟩
             have n2_ : Aside0 ((((w107.setCell ⟨gb766, 0, none⟩ (.int .u64 t762)).setCell ⟨gb766, 1, none⟩ (.int .u64 t763)).setCell ⟨gb766, 2, none⟩ (.int .u64 t764)).heap[gb739]? = some (.cells #[.int .u64 t736, .int .u64 t737] 24 (0, 0))) := ⟨by (with_reducible repeat (first | refine zgq ?_ _ | refine zhq ?_ | refine ziq ?_ _)); refine zjq ?_ NB739_766.out _; (with_reducible repeat (first | refine zgq ?_ _ | refine zhq ?_ | refine ziq ?_ _)); refine zjq ?_ NB739_766.out _; (with_reducible repeat (first | refine zgq ?_ _ | refine zhq ?_ | refine ziq ?_ _)); refine zjq ?_ NB739_766.out _; (with_reducible repeat (first | refine zgq ?_ _ | refine zhq ?_ | refine ziq ?_ _)); exact BK739.out⟩
             have n3_ : Aside0 ((((w107.setCell ⟨gb766, 0, none⟩ (.int .u64 t762)).setCell ⟨gb766, 1, none⟩ (.int .u64 t763)).setCell ⟨gb766, 2, none⟩ (.int .u64 t764)).heap[gb743]? = some (.cells #[.int .u64 t740, .int .u64 t741] 24 (0, 0))) := ⟨by (with_reducible repeat (first | refine zgq ?_ _ | refine zhq ?_ | refine ziq ?_ _)); refine zjq ?_ NB743_766.out _; (with_reducible repeat (first | refine zgq ?_ _ | refine zhq ?_ | refine ziq ?_ _)); refine zjq ?_ NB743_766.out _; (with_reducible repeat (first | refine zgq ?_ _ | refine zhq ?_ | refine ziq ?_ _)); refine zjq ?_ NB743_766.out _; (with_reducible repeat (first | refine zgq ?_ _ | refine zhq ?_ | refine ziq ?_ _)); exact BK743.out⟩
             have n4_ : Aside0 ((((w107.setCell ⟨gb766, 0, none⟩ (.int .u64 t762)).setCell ⟨gb766, 1, none⟩ (.int .u64 t763)).setCell ⟨gb766, 2, none⟩ (.int .u64 t764)).heap[gb766]? = some (.cells #[.int .u64 t762, .int .u64 t763, .int .u64 t764] 69 (0, 0))) := ⟨by (with_reducible repeat (first | refine zgq ?_ _ | refine zhq ?_ | refine ziq ?_ _)); refine zkq (cs := #[.int .u64 t762, .int .u64 t763, .int .u64 0]) ?_ 2 _ rfl; (with_reducible repeat (first | refine zgq ?_ _ | refine zhq ?_ | refine ziq ?_ _)); refine zkq (cs := #[.int .u64 t762, .int .u64 0, .int .u64 0]) ?_ 1 _ rfl; (with_reducible repeat (first | refine zgq ?_ _ | refine zhq ?_ | refine ziq ?_ _)); refine zkq (cs := #[.int .u64 0, .int .u64 0, .int .u64 0]) ?_ 0 _ rfl; (with_reducible repeat (first | refine zgq ?_ _ | refine zhq ?_ | refine ziq ?_ _)); exact BK766.out⟩
             have n5_ : Aside0 (Below w.heap.size w (((w107.setCell ⟨gb766, 0, none⟩ (.int .u64 t762)).setCell ⟨gb766, 1, none⟩ (.int .u64 t763)).setCell ⟨gb766, 2, none⟩ (.int .u64 t764))) := ⟨by repeat (first | (with_reducible first | exact HB.out | apply zaq | apply zbq | apply zcq | refine zdq ?_ GE733.out | refine zdq ?_ GE734.out | refine zdq ?_ GE739.out | refine zdq ?_ GE743.out | refine zdq ?_ GE766.out) | exact HB.out)⟩
             (try clear BK733)
             (try clear BK734)
             (try clear BK739)
             (try clear BK743)
             (try clear BK766)
             (try clear HB)
             generalize (((w107.setCell ⟨gb766, 0, none⟩ (.int .u64 t762)).setCell ⟨gb766, 1, none⟩ (.int .u64 t763)).setCell ⟨gb766, 2, none⟩ (.int .u64 t764)) = w119 at n0_ n1_ n2_ n3_ n4_ n5_ ⊢
             have BK733 := n0_
             have BK734 := n1_
             have BK739 := n2_
             have BK743 := n3_
             have BK766 := n4_
             have HB := n5_
             clear n0_ n1_ n2_ n3_ n4_ n5_
             have n0_ := zA (zhq BK733.out)
             have n1_ := zA (zhq BK734.out)
             have n2_ := zA (zhq BK739.out)
             have n3_ := zA (zhq BK743.out)
             have n4_ := zA (zhq BK766.out)
             have n5_ := zA (zcq HB.out)
             clear BK733
             clear BK734
             clear BK739
             clear BK743
             clear BK766
             clear HB
             have BK733 := n0_
             have BK734 := n1_
             have BK739 := n2_
             have BK743 := n3_
             have BK766 := n4_
             have HB := n5_
             clear n0_ n1_ n2_ n3_ n4_ n5_
             refine start_ (n := 12) (S := fun w' => w'.cell? ⟨gb766, 0, none⟩ = some (.int .u64 t762) ∧ w'.cell? ⟨gb766, 1, none⟩ = some (.int .u64 t763) ∧ w'.cell? ⟨gb766, 2, none⟩ = some (.int .u64 t764) ∧ w'.cell? ⟨gb733, 0, none⟩ = some (.int .u64 a0_0) ∧ w'.cell? ⟨gb733, 1, none⟩ = some (.int .u64 a0_1)) (ds := []) #[false, false, false, false, false, false, false, false, false, false, false, false] (by kernel_rfl) rfl rfl ⟨(zmq BK766.out 0).trans rfl, (zmq BK766.out 1).trans rfl, (zmq BK766.out 2).trans rfl, (zmq BK733.out 0).trans rfl, (zmq BK733.out 1).trans rfl⟩ (fun hHeld => ?_); refine with_tabW tabardlaw2_WideBack.tab18 tabardlaw2_WideBack.bits18 (fun HT_ HW_ => ?_)
             generalize w119.drew = w120 at BK733 BK734 BK739 BK743 BK766 HB hHeld ⊢
             refine take_ (i := 0) (N := some 102) (v := ?_) (a' := ?_) #[true, false, false, false, false, false, false, false, false, false, false, false] rfl rfl (take_ofW HT_.out HW_.out (by kernel_rfl)) (fun _ _ _ h => h) (Or.inl ⟨by rfl, ?_⟩) hHeld ?_ ?_
             rotate_left
             ·
              rintro w' ⟨s0, s1, s2, s3, s4⟩
              go_simp
              with_reducible rfl
             rotate_left
             ·
              simp only [Act.put, List.setIfInBounds_toArray, List.set_cons_zero, List.set_cons_succ, i64_w, i32_w]
              rfl
             refine take_ (i := 2) (N := some 104) (v := ?_) (a' := ?_) #[true, false, true, false, false, false, false, false, false, false, false, false] rfl rfl (take_ofW HT_.out HW_.out (by kernel_rfl)) (fun _ _ _ h => h) (Or.inl ⟨by rfl, ?_⟩) hHeld ?_ ?_
             rotate_left
             ·
              rintro w' ⟨s0, s1, s2, s3, s4⟩
              go_simp
              with_reducible rfl
             rotate_left
             ·
              simp only [Act.put, List.setIfInBounds_toArray, List.set_cons_zero, List.set_cons_succ, i64_w, i32_w]
              rfl
             refine one_ (i := 1) (N := some 103) #[true, true, true, false, false, false, false, false, false, false, false, false] rfl rfl (one_of HT_.out (by kernel_rfl)) (by decide) (fun K hK => ?_)
             refine goes_ Try.func62 (by kernel_rfl) rfl #[.agg #[.int .u64 t762, .int .u64 t763, .int .u64 t764]] (by rfl) rfl rfl (by (try simp only [List.map_toArray, List.map_cons, List.map_nil]); first | done | rfl | (simp only [List.length_drop, List.length_take]; rfl)) ?_
             with_reducible refine (wide_Low.calls t762 t763 t764 t767 t768 _ A113.out).mono ?_
             rintro e w121 ⟨rfl, hb⟩
             refine ⟨_, rfl, ?_⟩
             have n0_ := zA (zlq (g := gb733) (o := .cells #[.int .u64 a0_0, .int .u64 a0_1] 24 (0, 0)) (by (with_reducible repeat (first | refine zgq ?_ _ | refine zhq ?_ | refine ziq ?_ _)); exact BK733.out) hb)
             have n1_ := zA (zlq (g := gb734) (o := .cells #[.int .u64 a1_0, .int .u64 a1_1] 24 (0, 0)) (by (with_reducible repeat (first | refine zgq ?_ _ | refine zhq ?_ | refine ziq ?_ _)); exact BK734.out) hb)
             have n2_ := zA (zlq (g := gb739) (o := .cells #[.int .u64 t736, .int .u64 t737] 24 (0, 0)) (by (with_reducible repeat (first | refine zgq ?_ _ | refine zhq ?_ | refine ziq ?_ _)); exact BK739.out) hb)
             have n3_ := zA (zlq (g := gb743) (o := .cells #[.int .u64 t740, .int .u64 t741] 24 (0, 0)) (by (with_reducible repeat (first | refine zgq ?_ _ | refine zhq ?_ | refine ziq ?_ _)); exact BK743.out) hb)
             have n4_ := zA (zlq (g := gb766) (o := .cells #[.int .u64 t762, .int .u64 t763, .int .u64 t764] 69 (0, 0)) (by (with_reducible repeat (first | refine zgq ?_ _ | refine zhq ?_ | refine ziq ?_ _)); exact BK766.out) hb)
             have n5_ := zA (zeq (by repeat (first | (with_reducible first | exact HB.out | apply zaq | apply zbq | apply zcq | refine zdq ?_ GE733.out | refine zdq ?_ GE734.out | refine zdq ?_ GE739.out | refine zdq ?_ GE743.out | refine zdq ?_ GE766.out) | exact HB.out)) hb)
             clear BK733
             clear BK734
             clear BK739
             clear BK743
             clear BK766
             clear HB
             have BK733 := n0_
             have BK734 := n1_
             have BK739 := n2_
             have BK743 := n3_
             have BK766 := n4_
             have HB := n5_
             clear n0_ n1_ n2_ n3_ n4_ n5_
             (try clear hb)
             (try clear hb2)
             (try clear hk)
             (try clear hi)
             refine hK.out _ _ ⟨(zmq BK766.out 0).trans rfl, (zmq BK766.out 1).trans rfl, (zmq BK766.out 2).trans rfl, (zmq BK733.out 0).trans rfl, (zmq BK733.out 1).trans rfl⟩ (fun hHeld => ?_)
             clear hK K
             refine norm_ (a' := ?_) ?_ ?_
             rotate_left
             ·
              show Act.put _ (some 103) _ = _
              simp only [Act.put, List.setIfInBounds_toArray, List.set_cons_zero, List.set_cons_succ, i64_w, i32_w]
              rfl
             refine pure_ (i := 3) (N := some 105) (v := ?_) (a' := ?_) #[true, true, true, true, false, false, false, false, false, false, false, false] rfl rfl (any_of HT_.out (by kernel_rfl)) (fun _ _ _ h => h) (Or.inl ⟨by rfl, ?_⟩) ?_ ?_
             rotate_left
             ·
              intro w'
              go_simp
              with_reducible rfl
             rotate_left
             ·
              simp only [Act.put, List.setIfInBounds_toArray, List.set_cons_zero, List.set_cons_succ, i64_w, i32_w]
              rfl
             refine pure_ (i := 4) (N := some 106) (v := ?_) (a' := ?_) #[true, true, true, true, true, false, false, false, false, false, false, false] rfl rfl (any_of HT_.out (by kernel_rfl)) (fun _ _ _ h => h) (Or.inl ⟨by rfl, ?_⟩) ?_ ?_
             rotate_left
             ·
              intro w'
              go_simp
              with_reducible rfl
             rotate_left
             ·
              simp only [Act.put, List.setIfInBounds_toArray, List.set_cons_zero, List.set_cons_succ, i64_w, i32_w]
              rfl
             refine pure_ (i := 5) (N := some 107) (v := ?_) (a' := ?_) #[true, true, true, true, true, true, false, false, false, false, false, false] rfl rfl (any_of HT_.out (by kernel_rfl)) (fun _ _ _ h => h) (Or.inl ⟨by rfl, ?_⟩) ?_ ?_
             rotate_left
             ·
              intro w'
              go_simp
              with_reducible rfl
             rotate_left
             ·
              simp only [Act.put, List.setIfInBounds_toArray, List.set_cons_zero, List.set_cons_succ, i64_w, i32_w]
              rfl
             refine take_ (i := 6) (N := some 108) (v := ?_) (a' := ?_) #[true, true, true, true, true, true, true, false, false, false, false, false] rfl rfl (take_ofW HT_.out HW_.out (by kernel_rfl)) (fun _ _ _ h => h) (Or.inl ⟨by rfl, ?_⟩) hHeld ?_ ?_
             rotate_left
             ·
              rintro w' ⟨s0, s1, s2, s3, s4⟩
              go_simp
              with_reducible rfl
             rotate_left
             ·
              simp only [Act.put, List.setIfInBounds_toArray, List.set_cons_zero, List.set_cons_succ, i64_w, i32_w]
              rfl
             refine pure_ (i := 7) (N := some 109) (v := ?_) (a' := ?_) #[true, true, true, true, true, true, true, true, false, false, false, false] rfl rfl (any_of HT_.out (by kernel_rfl)) (fun _ _ _ h => h) (Or.inl ⟨by rfl, ?_⟩) ?_ ?_
             rotate_left
             ·
              intro w'
              go_simp
              with_reducible rfl
             rotate_left
             ·
              simp only [Act.put, List.setIfInBounds_toArray, List.set_cons_zero, List.set_cons_succ, i64_w, i32_w]
              rfl
             refine pure_ (i := 8) (N := some 110) (v := ?_) (a' := ?_) #[true, true, true, true, true, true, true, true, true, false, false, false] rfl rfl (any_of HT_.out (by kernel_rfl)) (fun _ _ _ h => h) (Or.inl ⟨by rfl, ?_⟩) ?_ ?_
             rotate_left
             ·
              intro w'
              go_simp
              with_reducible rfl
             rotate_left
             ·
              simp only [Act.put, List.setIfInBounds_toArray, List.set_cons_zero, List.set_cons_succ, i64_w, i32_w]
              rfl
             refine pure_ (i := 9) (N := some 111) (v := ?_) (a' := ?_) #[true, true, true, true, true, true, true, true, true, true, false, false] rfl rfl (any_of HT_.out (by kernel_rfl)) (fun _ _ _ h => h) (Or.inl ⟨by rfl, ?_⟩) ?_ ?_
             rotate_left
             ·
              intro w'
              go_simp
              with_reducible rfl
             rotate_left
             ·
              simp only [Act.put, List.setIfInBounds_toArray, List.set_cons_zero, List.set_cons_succ, i64_w, i32_w]
              rfl
             refine pure_ (i := 10) (N := some 112) (v := ?_) (a' := ?_) #[true, true, true, true, true, true, true, true, true, true, true, false] rfl rfl (any_of HT_.out (by kernel_rfl)) (fun _ _ _ h => h) (Or.inl ⟨by rfl, ?_⟩) ?_ ?_
             rotate_left
             ·
              intro w'
              go_simp
              with_reducible rfl
             rotate_left
             ·
              simp only [Act.put, List.setIfInBounds_toArray, List.set_cons_zero, List.set_cons_succ, i64_w, i32_w]
              rfl
             refine pure_ (i := 11) (N := some 113) (v := ?_) (a' := ?_) #[true, true, true, true, true, true, true, true, true, true, true, true] rfl rfl (any_of HT_.out (by kernel_rfl)) (fun _ _ _ h => h) (Or.inl ⟨by rfl, ?_⟩) ?_ ?_
             rotate_left
             ·
              intro w'
              go_simp
              with_reducible rfl
             rotate_left
             ·
              simp only [Act.put, List.setIfInBounds_toArray, List.set_cons_zero, List.set_cons_succ, i64_w, i32_w]
              rfl
             refine done_ (done_of HT_.out (by kernel_rfl)) ?_
             try go_wp2
             go_meet
             case rel => exact ⟨_, (t765), (by first | rfl | (simp; done) | (simp [*]; done)), H', ⟨by have := HJ7.out; have := HJ42.out; have := HJ92.out; first | omega | exact Nat.le_refl _⟩, ⟨by (with_reducible repeat (first | refine zgq ?_ _ | refine zhq ?_ | refine ziq ?_ _)); exact BK733.out⟩, ⟨by (with_reducible repeat (first | refine zgq ?_ _ | refine zhq ?_ | refine ziq ?_ _)); exact BK734.out⟩, ⟨by (with_reducible repeat (first | refine zgq ?_ _ | refine zhq ?_ | refine ziq ?_ _)); exact BK739.out⟩, ⟨by (with_reducible repeat (first | refine zgq ?_ _ | refine zhq ?_ | refine ziq ?_ _)); exact BK743.out⟩, ⟨by (with_reducible repeat (first | refine zgq ?_ _ | refine zhq ?_ | refine ziq ?_ _)); exact BK766.out⟩, ⟨by repeat (first | (with_reducible first | exact HB.out | apply zaq | apply zbq | apply zcq | refine zdq ?_ GE733.out | refine zdq ?_ GE734.out | refine zdq ?_ GE739.out | refine zdq ?_ GE743.out | refine zdq ?_ GE766.out) | exact HB.out)⟩⟩
            ·
             rw [if_neg c118] at H
             have c118b0 : (t762 == 0) = false := beq_eq_false_iff_ne.mpr c118
             have c118b1 : (t762 != 0) = true := bne_iff_ne.mpr c118
             have H' := zA H
             clear H
             try go_wp2
             have n0_ : Aside0 ((((w107.setCell ⟨gb766, 0, none⟩ (.int .u64 t762)).setCell ⟨gb766, 1, none⟩ (.int .u64 t763)).setCell ⟨gb766, 2, none⟩ (.int .u64 t764)).heap[gb733]? = some (.cells #[.int .u64 a0_0, .int .u64 a0_1] 24 (0, 0))) := ⟨by (with_reducible repeat (first | refine zgq ?_ _ | refine zhq ?_ | refine ziq ?_ _)); refine zjq ?_ NB733_766.out _; (with_reducible repeat (first | refine zgq ?_ _ | refine zhq ?_ | refine ziq ?_ _)); refine zjq ?_ NB733_766.out _; (with_reducible repeat (first | refine zgq ?_ _ | refine zhq ?_ | refine ziq ?_ _)); refine zjq ?_ NB733_766.out _; (with_reducible repeat (first | refine zgq ?_ _ | refine zhq ?_ | refine ziq ?_ _)); exact BK733.out⟩
             have n1_ : Aside0 ((((w107.setCell ⟨gb766, 0, none⟩ (.int .u64 t762)).setCell ⟨gb766, 1, none⟩ (.int .u64 t763)).setCell ⟨gb766, 2, none⟩ (.int .u64 t764)).heap[gb734]? = some (.cells #[.int .u64 a1_0, .int .u64 a1_1] 24 (0, 0))) := ⟨by (with_reducible repeat (first | refine zgq ?_ _ | refine zhq ?_ | refine ziq ?_ _)); refine zjq ?_ NB734_766.out _; (with_reducible repeat (first | refine zgq ?_ _ | refine zhq ?_ | refine ziq ?_ _)); refine zjq ?_ NB734_766.out _; (with_reducible repeat (first | refine zgq ?_ _ | refine zhq ?_ | refine ziq ?_ _)); refine zjq ?_ NB734_766.out _; (with_reducible repeat (first | refine zgq ?_ _ | refine zhq ?_ | refine ziq ?_ _)); exact BK734.out⟩
             have n2_ : Aside0 ((((w107.setCell ⟨gb766, 0, none⟩ (.int .u64 t762)).setCell ⟨gb766, 1, none⟩ (.int .u64 t763)).setCell ⟨gb766, 2, none⟩ (.int .u64 t764)).heap[gb739]? = some (.cells #[.int .u64 t736, .int .u64 t737] 24 (0, 0))) := ⟨by (with_reducible repeat (first | refine zgq ?_ _ | refine zhq ?_ | refine ziq ?_ _)); refine zjq ?_ NB739_766.out _; (with_reducible repeat (first | refine zgq ?_ _ | refine zhq ?_ | refine ziq ?_ _)); refine zjq ?_ NB739_766.out _; (with_reducible repeat (first | refine zgq ?_ _ | refine zhq ?_ | refine ziq ?_ _)); refine zjq ?_ NB739_766.out _; (with_reducible repeat (first | refine zgq ?_ _ | refine zhq ?_ | refine ziq ?_ _)); exact BK739.out⟩
             have n3_ : Aside0 ((((w107.setCell ⟨gb766, 0, none⟩ (.int .u64 t762)).setCell ⟨gb766, 1, none⟩ (.int .u64 t763)).setCell ⟨gb766, 2, none⟩ (.int .u64 t764)).heap[gb743]? = some (.cells #[.int .u64 t740, .int .u64 t741] 24 (0, 0))) := ⟨by (with_reducible repeat (first | refine zgq ?_ _ | refine zhq ?_ | refine ziq ?_ _)); refine zjq ?_ NB743_766.out _; (with_reducible repeat (first | refine zgq ?_ _ | refine zhq ?_ | refine ziq ?_ _)); refine zjq ?_ NB743_766.out _; (with_reducible repeat (first | refine zgq ?_ _ | refine zhq ?_ | refine ziq ?_ _)); refine zjq ?_ NB743_766.out _; (with_reducible repeat (first | refine zgq ?_ _ | refine zhq ?_ | refine ziq ?_ _)); exact BK743.out⟩
             have n4_ : Aside0 ((((w107.setCell ⟨gb766, 0, none⟩ (.int .u64 t762)).setCell ⟨gb766, 1, none⟩ (.int .u64 t763)).setCell ⟨gb766, 2, none⟩ (.int .u64 t764)).heap[gb766]? = some (.cells #[.int .u64 t762, .int .u64 t763, .int .u64 t764] 69 (0, 0))) := ⟨by (with_reducible repeat (first | refine zgq ?_ _ | refine zhq ?_ | refine ziq ?_ _)); refine zkq (cs := #[.int .u64 t762, .int .u64 t763, .int .u64 0]) ?_ 2 _ rfl; (with_reducible repeat (first | refine zgq ?_ _ | refine zhq ?_ | refine ziq ?_ _)); refine zkq (cs := #[.int .u64 t762, .int .u64 0, .int .u64 0]) ?_ 1 _ rfl; (with_reducible repeat (first | refine zgq ?_ _ | refine zhq ?_ | refine ziq ?_ _)); refine zkq (cs := #[.int .u64 0, .int .u64 0, .int .u64 0]) ?_ 0 _ rfl; (with_reducible repeat (first | refine zgq ?_ _ | refine zhq ?_ | refine ziq ?_ _)); exact BK766.out⟩
             have n5_ : Aside0 (Below w.heap.size w (((w107.setCell ⟨gb766, 0, none⟩ (.int .u64 t762)).setCell ⟨gb766, 1, none⟩ (.int .u64 t763)).setCell ⟨gb766, 2, none⟩ (.int .u64 t764))) := ⟨by repeat (first | (with_reducible first | exact HB.out | apply zaq | apply zbq | apply zcq | refine zdq ?_ GE733.out | refine zdq ?_ GE734.out | refine zdq ?_ GE739.out | refine zdq ?_ GE743.out | refine zdq ?_ GE766.out) | exact HB.out)⟩
             (try clear BK733)
             (try clear BK734)
             (try clear BK739)
             (try clear BK743)
             (try clear BK766)
             (try clear HB)
             generalize (((w107.setCell ⟨gb766, 0, none⟩ (.int .u64 t762)).setCell ⟨gb766, 1, none⟩ (.int .u64 t763)).setCell ⟨gb766, 2, none⟩ (.int .u64 t764)) = w122 at n0_ n1_ n2_ n3_ n4_ n5_ ⊢
             have BK733 := n0_
             have BK734 := n1_
             have BK739 := n2_
             have BK743 := n3_
             have BK766 := n4_
             have HB := n5_
             clear n0_ n1_ n2_ n3_ n4_ n5_
             have n0_ := zA (zhq BK733.out)
             have n1_ := zA (zhq BK734.out)
             have n2_ := zA (zhq BK739.out)
             have n3_ := zA (zhq BK743.out)
             have n4_ := zA (zhq BK766.out)
             have n5_ := zA (zcq HB.out)
             clear BK733
             clear BK734
             clear BK739
             clear BK743
             clear BK766
             clear HB
             have BK733 := n0_
             have BK734 := n1_
             have BK739 := n2_
             have BK743 := n3_
             have BK766 := n4_
             have HB := n5_
             clear n0_ n1_ n2_ n3_ n4_ n5_
             refine start_ (n := 12) (S := fun w' => w'.cell? ⟨gb766, 0, none⟩ = some (.int .u64 t762) ∧ w'.cell? ⟨gb766, 1, none⟩ = some (.int .u64 t763) ∧ w'.cell? ⟨gb766, 2, none⟩ = some (.int .u64 t764) ∧ w'.cell? ⟨gb733, 0, none⟩ = some (.int .u64 a0_0) ∧ w'.cell? ⟨gb733, 1, none⟩ = some (.int .u64 a0_1)) (ds := []) #[false, false, false, false, false, false, false, false, false, false, false, false] (by kernel_rfl) rfl rfl ⟨(zmq BK766.out 0).trans rfl, (zmq BK766.out 1).trans rfl, (zmq BK766.out 2).trans rfl, (zmq BK733.out 0).trans rfl, (zmq BK733.out 1).trans rfl⟩ (fun hHeld => ?_); refine with_tabW tabardlaw2_WideBack.tab18 tabardlaw2_WideBack.bits18 (fun HT_ HW_ => ?_)
             generalize w122.drew = w123 at BK733 BK734 BK739 BK743 BK766 HB hHeld ⊢
             refine take_ (i := 0) (N := some 102) (v := ?_) (a' := ?_) #[true, false, false, false, false, false, false, false, false, false, false, false] rfl rfl (take_ofW HT_.out HW_.out (by kernel_rfl)) (fun _ _ _ h => h) (Or.inl ⟨by rfl, ?_⟩) hHeld ?_ ?_
             rotate_left
             ·
              rintro w' ⟨s0, s1, s2, s3, s4⟩
              go_simp
              with_reducible rfl
             rotate_left
             ·
              simp only [Act.put, List.setIfInBounds_toArray, List.set_cons_zero, List.set_cons_succ, i64_w, i32_w]
              rfl
             refine take_ (i := 2) (N := some 104) (v := ?_) (a' := ?_) #[true, false, true, false, false, false, false, false, false, false, false, false] rfl rfl (take_ofW HT_.out HW_.out (by kernel_rfl)) (fun _ _ _ h => h) (Or.inl ⟨by rfl, ?_⟩) hHeld ?_ ?_
             rotate_left
             ·
              rintro w' ⟨s0, s1, s2, s3, s4⟩
              go_simp
              with_reducible rfl
             rotate_left
             ·
              simp only [Act.put, List.setIfInBounds_toArray, List.set_cons_zero, List.set_cons_succ, i64_w, i32_w]
              rfl
             refine one_ (i := 1) (N := some 103) #[true, true, true, false, false, false, false, false, false, false, false, false] rfl rfl (one_of HT_.out (by kernel_rfl)) (by decide) (fun K hK => ?_)
             refine goes_ Try.func62 (by kernel_rfl) rfl #[.agg #[.int .u64 t762, .int .u64 t763, .int .u64 t764]] (by rfl) rfl rfl (by (try simp only [List.map_toArray, List.map_cons, List.map_nil]); first | done | rfl | (simp only [List.length_drop, List.length_take]; rfl)) ?_
             with_reducible refine (wide_Low.calls t762 t763 t764 t767 t768 _ A113.out).mono ?_
             rintro e w124 ⟨rfl, hb⟩
             refine ⟨_, rfl, ?_⟩
             have n0_ := zA (zlq (g := gb733) (o := .cells #[.int .u64 a0_0, .int .u64 a0_1] 24 (0, 0)) (by (with_reducible repeat (first | refine zgq ?_ _ | refine zhq ?_ | refine ziq ?_ _)); exact BK733.out) hb)
             have n1_ := zA (zlq (g := gb734) (o := .cells #[.int .u64 a1_0, .int .u64 a1_1] 24 (0, 0)) (by (with_reducible repeat (first | refine zgq ?_ _ | refine zhq ?_ | refine ziq ?_ _)); exact BK734.out) hb)
             have n2_ := zA (zlq (g := gb739) (o := .cells #[.int .u64 t736, .int .u64 t737] 24 (0, 0)) (by (with_reducible repeat (first | refine zgq ?_ _ | refine zhq ?_ | refine ziq ?_ _)); exact BK739.out) hb)
             have n3_ := zA (zlq (g := gb743) (o := .cells #[.int .u64 t740, .int .u64 t741] 24 (0, 0)) (by (with_reducible repeat (first | refine zgq ?_ _ | refine zhq ?_ | refine ziq ?_ _)); exact BK743.out) hb)
             have n4_ := zA (zlq (g := gb766) (o := .cells #[.int .u64 t762, .int .u64 t763, .int .u64 t764] 69 (0, 0)) (by (with_reducible repeat (first | refine zgq ?_ _ | refine zhq ?_ | refine ziq ?_ _)); exact BK766.out) hb)
             have n5_ := zA (zeq (by repeat (first | (with_reducible first | exact HB.out | apply zaq | apply zbq | apply zcq | refine zdq ?_ GE733.out | refine zdq ?_ GE734.out | refine zdq ?_ GE739.out | refine zdq ?_ GE743.out | refine zdq ?_ GE766.out) | exact HB.out)) hb)
             clear BK733
             clear BK734
             clear BK739
             clear BK743
             clear BK766
             clear HB
             have BK733 := n0_
             have BK734 := n1_
             have BK739 := n2_
             have BK743 := n3_
             have BK766 := n4_
             have HB := n5_
             clear n0_ n1_ n2_ n3_ n4_ n5_
             (try clear hb)
             (try clear hb2)
             (try clear hk)
             (try clear hi)
             refine hK.out _ _ ⟨(zmq BK766.out 0).trans rfl, (zmq BK766.out 1).trans rfl, (zmq BK766.out 2).trans rfl, (zmq BK733.out 0).trans rfl, (zmq BK733.out 1).trans rfl⟩ (fun hHeld => ?_)
             clear hK K
             refine norm_ (a' := ?_) ?_ ?_
             rotate_left
             ·
              show Act.put _ (some 103) _ = _
              simp only [Act.put, List.setIfInBounds_toArray, List.set_cons_zero, List.set_cons_succ, i64_w, i32_w]
              rfl
             refine pure_ (i := 3) (N := some 105) (v := ?_) (a' := ?_) #[true, true, true, true, false, false, false, false, false, false, false, false] rfl rfl (any_of HT_.out (by kernel_rfl)) (fun _ _ _ h => h) (Or.inl ⟨by rfl, ?_⟩) ?_ ?_
             rotate_left
             ·
              intro w'
              go_simp
              with_reducible rfl
             rotate_left
             ·
              simp only [Act.put, List.setIfInBounds_toArray, List.set_cons_zero, List.set_cons_succ, i64_w, i32_w]
              rfl
             refine pure_ (i := 4) (N := some 106) (v := ?_) (a' := ?_) #[true, true, true, true, true, false, false, false, false, false, false, false] rfl rfl (any_of HT_.out (by kernel_rfl)) (fun _ _ _ h => h) (Or.inl ⟨by rfl, ?_⟩) ?_ ?_
             rotate_left
             ·
              intro w'
              go_simp
              with_reducible rfl
             rotate_left
             ·
              simp only [Act.put, List.setIfInBounds_toArray, List.set_cons_zero, List.set_cons_succ, i64_w, i32_w]
              rfl
             refine pure_ (i := 5) (N := some 107) (v := ?_) (a' := ?_) #[true, true, true, true, true, true, false, false, false, false, false, false] rfl rfl (any_of HT_.out (by kernel_rfl)) (fun _ _ _ h => h) (Or.inl ⟨by rfl, ?_⟩) ?_ ?_
             rotate_left
             ·
              intro w'
              go_simp
              with_reducible rfl
             rotate_left
             ·
              simp only [Act.put, List.setIfInBounds_toArray, List.set_cons_zero, List.set_cons_succ, i64_w, i32_w]
              rfl
             refine take_ (i := 6) (N := some 108) (v := ?_) (a' := ?_) #[true, true, true, true, true, true, true, false, false, false, false, false] rfl rfl (take_ofW HT_.out HW_.out (by kernel_rfl)) (fun _ _ _ h => h) (Or.inl ⟨by rfl, ?_⟩) hHeld ?_ ?_
             rotate_left
             ·
              rintro w' ⟨s0, s1, s2, s3, s4⟩
              go_simp
              with_reducible rfl
             rotate_left
             ·
              simp only [Act.put, List.setIfInBounds_toArray, List.set_cons_zero, List.set_cons_succ, i64_w, i32_w]
              rfl
             refine pure_ (i := 7) (N := some 109) (v := ?_) (a' := ?_) #[true, true, true, true, true, true, true, true, false, false, false, false] rfl rfl (any_of HT_.out (by kernel_rfl)) (fun _ _ _ h => h) (Or.inl ⟨by rfl, ?_⟩) ?_ ?_
             rotate_left
             ·
              intro w'
              go_simp
              with_reducible rfl
             rotate_left
             ·
              simp only [Act.put, List.setIfInBounds_toArray, List.set_cons_zero, List.set_cons_succ, i64_w, i32_w]
              rfl
             refine pure_ (i := 8) (N := some 110) (v := ?_) (a' := ?_) #[true, true, true, true, true, true, true, true, true, false, false, false] rfl rfl (any_of HT_.out (by kernel_rfl)) (fun _ _ _ h => h) (Or.inl ⟨by rfl, ?_⟩) ?_ ?_
             rotate_left
             ·
              intro w'
              go_simp
              with_reducible rfl
             rotate_left
             ·
              simp only [Act.put, List.setIfInBounds_toArray, List.set_cons_zero, List.set_cons_succ, i64_w, i32_w]
              rfl
             refine pure_ (i := 9) (N := some 111) (v := ?_) (a' := ?_) #[true, true, true, true, true, true, true, true, true, true, false, false] rfl rfl (any_of HT_.out (by kernel_rfl)) (fun _ _ _ h => h) (Or.inl ⟨by rfl, ?_⟩) ?_ ?_
             rotate_left
             ·
              intro w'
              go_simp
              with_reducible rfl
             rotate_left
             ·
              simp only [Act.put, List.setIfInBounds_toArray, List.set_cons_zero, List.set_cons_succ, i64_w, i32_w]
              rfl
             refine pure_ (i := 10) (N := some 112) (v := undef) (a' := ?_) #[true, true, true, true, true, true, true, true, true, true, true, false] rfl rfl (any_of HT_.out (by kernel_rfl)) (fun _ _ _ h => h) (Or.inr ⟨by rfl, rfl⟩) ?_ ?_
             rotate_left
             ·
              simp only [Act.put, List.setIfInBounds_toArray, List.set_cons_zero, List.set_cons_succ, i64_w, i32_w]
              rfl
             refine pure_ (i := 11) (N := some 113) (v := ?_) (a' := ?_) #[true, true, true, true, true, true, true, true, true, true, true, true] rfl rfl (any_of HT_.out (by kernel_rfl)) (fun _ _ _ h => h) (Or.inl ⟨by rfl, ?_⟩) ?_ ?_
             rotate_left
             ·
              intro w'
              go_simp
              with_reducible rfl
             rotate_left
             ·
              simp only [Act.put, List.setIfInBounds_toArray, List.set_cons_zero, List.set_cons_succ, i64_w, i32_w]
              rfl
             refine done_ (done_of HT_.out (by kernel_rfl)) ?_
             try go_wp2
             go_meet
             case rel => exact ⟨_, (true), (by first | rfl | (simp; done) | (simp [*]; done)), H', ⟨by have := HJ7.out; have := HJ42.out; have := HJ92.out; first | omega | exact Nat.le_refl _⟩, ⟨by (with_reducible repeat (first | refine zgq ?_ _ | refine zhq ?_ | refine ziq ?_ _)); exact BK733.out⟩, ⟨by (with_reducible repeat (first | refine zgq ?_ _ | refine zhq ?_ | refine ziq ?_ _)); exact BK734.out⟩, ⟨by (with_reducible repeat (first | refine zgq ?_ _ | refine zhq ?_ | refine ziq ?_ _)); exact BK739.out⟩, ⟨by (with_reducible repeat (first | refine zgq ?_ _ | refine zhq ?_ | refine ziq ?_ _)); exact BK743.out⟩, ⟨by (with_reducible repeat (first | refine zgq ?_ _ | refine zhq ?_ | refine ziq ?_ _)); exact BK766.out⟩, ⟨by repeat (first | (with_reducible first | exact HB.out | apply zaq | apply zbq | apply zcq | refine zdq ?_ GE733.out | refine zdq ?_ GE734.out | refine zdq ?_ GE739.out | refine zdq ?_ GE743.out | refine zdq ?_ GE766.out) | exact HB.out)⟩⟩
          case rest =>
           clear HC100
           try clear c1
           try clear p2
           try clear c6
           try clear c9
           try clear c10
           try clear c11
           try clear c60
           try clear c61
           try clear c62
           try clear c96
           try clear c96b0
           try clear c96b1
           try clear c101
           try clear c102
           try clear c103
           try clear c108
           try clear c109
           try clear c110
           try clear c111
           try clear c114
           try clear c114b0
           try clear c118
           try clear c118b0
           try clear c118b1
           try clear hcz104_0
           try clear hcz104_1
           try clear hcz112_0
           try clear hcz112_1
           try clear hcz112_2
           try clear hfz104_0
           try clear hfz104_1
           try clear hfz112_0
           try clear hfz112_1
           try clear hfz112_2
           try clear hfz20_0
           try clear hfz20_1
           try clear hfz26_0
           try clear hfz26_1
           try clear hfz31_0
           try clear hfz31_1
           try clear hfz34_0
           try clear hfz34_1
           try clear hfz38_0
           try clear hfz38_1
           try clear hfz41_0
           try clear hfz41_1
           try clear hfz47_0
           try clear hfz47_1
           try clear hfz60_0
           try clear hfz60_1
           try clear hfz63_0
           try clear hfz63_1
           try clear hfz70_0
           try clear hfz70_1
           try clear hfz71_0
           try clear hfz71_1
           try clear hfz79_0
           try clear hfz79_1
           try clear hfz79_2
           try clear hfz89_0
           try clear hfz89_1
           try clear hfz90_0
           try clear hfz90_1
           try clear hfz90_2
           try clear hfz91_0
           try clear hfz91_1
           try clear hfz92_0
           try clear hfz92_1
           try clear p2
           obtain ⟨kq, x113_99, rfl, HA, HJ99, BK733, BK734, BK739, BK743, BK766, HB⟩ := hcut
           cases kq with
           | zero => exact absurd HA.out (by simp [tabardlaw2_WideBack.j3])
           | succ kj99 =>
            have H := HA.out
            clear HA
            simp only [tabardlaw2_WideBack.j3] at H
            by_cases c125 : x113_99 = true
            ·
             subst c125
             have H1 : (none) = some r := by rw [if_pos rfl] at H; exact H
             clear H
             have H := H1
             clear H1
             exact absurd H (by simp)
            ·
             replace c125 := Bool.eq_false_iff.mpr c125
             subst c125
             have H1 : ((wide_Len.f kj99 a0_0 a0_1).bind fun t769 => (if (wrap64 (t769 + x18_92)) > 128 then (some true) else ((wide_Shl.f a0_0 a0_1 x18_92).bind fun bt770 => ((wide_Shr.f kj99 bt770.1 bt770.2 x18_92).bind fun bt772 => (if (bt772.1 == a0_0 && (bt772.2.1 == a0_1)) = true then (some (!bt772.2.2)) else (none)))))) = some r := by rw [if_neg (show ¬ (false = true) by decide)] at H; exact H
             clear H
             have H := H1
             clear H1
             replace H := Option.bind_eq_some_iff.mp H
             obtain ⟨t769, A1260, H⟩ := H
             replace H : (if (wrap64 (t769 + x18_92)) > 128 then (some true) else ((wide_Shl.f a0_0 a0_1 x18_92).bind fun bt770 => ((wide_Shr.f kj99 bt770.1 bt770.2 x18_92).bind fun bt772 => (if (bt772.1 == a0_0 && (bt772.2.1 == a0_1)) = true then (some (!bt772.2.2)) else (none))))) = some r := H
             have A126 := zA A1260
             clear A1260
             by_cases c127 : (wrap64 (t769 + x18_92)) > 128
             ·
              rw [if_pos c127] at H
              have c127b0 : decide (128 < (wrap64 (t769 + x18_92))) = true := decide_eq_true c127
              clear c127
              obtain rfl := Option.some.inj H
              have hnb128 := NB733_734.out
              have hnc128 := NB734_733.out
              have hnb129 := NB733_739.out
              have hnc129 := NB739_733.out
              have hnb130 := NB733_743.out
              have hnc130 := NB743_733.out
              have hnb131 := NB733_766.out
              have hnc131 := NB766_733.out
              have hcz132_0 : wc.cell? ⟨gb733, 0, none⟩ = some (.int .u64 a0_0) := (zmq BK733.out 0).trans rfl
              have hcz132_1 : wc.cell? ⟨gb733, 1, none⟩ = some (.int .u64 a0_1) := (zmq BK733.out 1).trans rfl
              have hfz132_0 := znq BK733.out 0
              have hfz132_1 := znq BK733.out 1
              go_wp2_with (first | ((with_reducible refine zoq (f := 49) rfl ?_); refine goesL_ (some 115) rfl rfl Try.func49 (by kernel_rfl) rfl #[.agg #[.int .u64 a0_0, .int .u64 a0_1]] rfl (by (try simp only [List.map_toArray, List.map_cons, List.map_nil]); first | done | rfl | (simp only [List.length_drop, List.length_take]; rfl)) ?_; (with_reducible refine (wide_Len.calls kj99 a0_0 a0_1 t769 _ A126.out).mono ?_); rintro e w133 ⟨rfl, hb⟩; refine ⟨_, rfl, ?_⟩; have n0_ := zA (zlq (g := gb733) (o := .cells #[.int .u64 a0_0, .int .u64 a0_1] 24 (0, 0)) (by (with_reducible repeat (first | refine zgq ?_ _ | refine zhq ?_ | refine ziq ?_ _)); exact BK733.out) hb); have n1_ := zA (zlq (g := gb734) (o := .cells #[.int .u64 a1_0, .int .u64 a1_1] 24 (0, 0)) (by (with_reducible repeat (first | refine zgq ?_ _ | refine zhq ?_ | refine ziq ?_ _)); exact BK734.out) hb); have n2_ := zA (zlq (g := gb739) (o := .cells #[.int .u64 t736, .int .u64 t737] 24 (0, 0)) (by (with_reducible repeat (first | refine zgq ?_ _ | refine zhq ?_ | refine ziq ?_ _)); exact BK739.out) hb); have n3_ := zA (zlq (g := gb743) (o := .cells #[.int .u64 t740, .int .u64 t741] 24 (0, 0)) (by (with_reducible repeat (first | refine zgq ?_ _ | refine zhq ?_ | refine ziq ?_ _)); exact BK743.out) hb); have n4_ := zA (zlq (g := gb766) (o := .cells #[.int .u64 t762, .int .u64 t763, .int .u64 t764] 69 (0, 0)) (by (with_reducible repeat (first | refine zgq ?_ _ | refine zhq ?_ | refine ziq ?_ _)); exact BK766.out) hb); have n5_ := zA (zeq (by repeat (first | (with_reducible first | exact HB.out | apply zaq | apply zbq | apply zcq | refine zdq ?_ GE733.out | refine zdq ?_ GE734.out | refine zdq ?_ GE739.out | refine zdq ?_ GE743.out | refine zdq ?_ GE766.out) | exact HB.out)) hb); clear BK733; clear BK734; clear BK739; clear BK743; clear BK766; clear HB; have BK733 := n0_; have BK734 := n1_; have BK739 := n2_; have BK743 := n3_; have BK766 := n4_; have HB := n5_; clear n0_ n1_ n2_ n3_ n4_ n5_; (try clear hb); (try clear hb2); (try clear hk); (try clear hi)))
              go_ret
              exact ⟨by first | rfl | (simp [errW_none, errW_some] <;> rfl) | (simp only [← hji95, ← hji97]; first | rfl | (simp [errW_none, errW_some] <;> rfl)) | (simp [*, errW_none, errW_some] <;> rfl), by repeat (first | (with_reducible first | exact HB.out | apply zaq | apply zbq | apply zcq | refine zdq ?_ GE733.out | refine zdq ?_ GE734.out | refine zdq ?_ GE739.out | refine zdq ?_ GE743.out | refine zdq ?_ GE766.out) | exact HB.out)⟩
             ·
              rw [if_neg c127] at H
              have c127b0 : decide (128 < (wrap64 (t769 + x18_92))) = false := decide_eq_false c127
              clear c127
              replace H := Option.bind_eq_some_iff.mp H
              obtain ⟨⟨t770, t771⟩, A1340, H⟩ := H
              replace H : ((wide_Shr.f kj99 t770 t771 x18_92).bind fun bt772 => (if (bt772.1 == a0_0 && (bt772.2.1 == a0_1)) = true then (some (!bt772.2.2)) else (none))) = some r := H
              have A134 := zA A1340
              clear A1340
              replace H := Option.bind_eq_some_iff.mp H
              obtain ⟨⟨t772, t773, t774⟩, A1350, H⟩ := H
              replace H : (if (t772 == a0_0 && (t773 == a0_1)) = true then (some (!t774)) else (none)) = some r := H
              have A135 := zA A1350
              clear A1350
              by_cases c136 : (t772 == a0_0 && (t773 == a0_1)) = true
              ·
               rw [if_pos c136] at H
               have c136b0 : (t772 == a0_0 && (t773 == a0_1)) = true := c136
               (try (have c136b1 : decide (t772 = a0_0 && (t773 == a0_1)) = true := by simpa using c136))
               (try (have c136b2 : (t772 == a0_0 && (t773 == a0_1)) = true := by simpa using c136))
               clear c136
               obtain rfl := Option.some.inj H
               have hnb137 := NB733_734.out
               have hnc137 := NB734_733.out
               have hnb138 := NB733_739.out
               have hnc138 := NB739_733.out
               have hnb139 := NB733_743.out
               have hnc139 := NB743_733.out
               have hnb140 := NB733_766.out
               have hnc140 := NB766_733.out
               have hcz141_0 : wc.cell? ⟨gb733, 0, none⟩ = some (.int .u64 a0_0) := (zmq BK733.out 0).trans rfl
               have hcz141_1 : wc.cell? ⟨gb733, 1, none⟩ = some (.int .u64 a0_1) := (zmq BK733.out 1).trans rfl
               have hfz141_0 := znq BK733.out 0
               have hfz141_1 := znq BK733.out 1
               go_wp2_with (first | ((with_reducible refine zoq (f := 49) rfl ?_); refine goesL_ (some 115) rfl rfl Try.func49 (by kernel_rfl) rfl #[.agg #[.int .u64 a0_0, .int .u64 a0_1]] rfl (by (try simp only [List.map_toArray, List.map_cons, List.map_nil]); first | done | rfl | (simp only [List.length_drop, List.length_take]; rfl)) ?_; (with_reducible refine (wide_Len.calls kj99 a0_0 a0_1 t769 _ A126.out).mono ?_); rintro e w142 ⟨rfl, hb⟩; refine ⟨_, rfl, ?_⟩; have n0_ := zA (zlq (g := gb733) (o := .cells #[.int .u64 a0_0, .int .u64 a0_1] 24 (0, 0)) (by (with_reducible repeat (first | refine zgq ?_ _ | refine zhq ?_ | refine ziq ?_ _)); exact BK733.out) hb); have n1_ := zA (zlq (g := gb734) (o := .cells #[.int .u64 a1_0, .int .u64 a1_1] 24 (0, 0)) (by (with_reducible repeat (first | refine zgq ?_ _ | refine zhq ?_ | refine ziq ?_ _)); exact BK734.out) hb); have n2_ := zA (zlq (g := gb739) (o := .cells #[.int .u64 t736, .int .u64 t737] 24 (0, 0)) (by (with_reducible repeat (first | refine zgq ?_ _ | refine zhq ?_ | refine ziq ?_ _)); exact BK739.out) hb); have n3_ := zA (zlq (g := gb743) (o := .cells #[.int .u64 t740, .int .u64 t741] 24 (0, 0)) (by (with_reducible repeat (first | refine zgq ?_ _ | refine zhq ?_ | refine ziq ?_ _)); exact BK743.out) hb); have n4_ := zA (zlq (g := gb766) (o := .cells #[.int .u64 t762, .int .u64 t763, .int .u64 t764] 69 (0, 0)) (by (with_reducible repeat (first | refine zgq ?_ _ | refine zhq ?_ | refine ziq ?_ _)); exact BK766.out) hb); have n5_ := zA (zeq (by repeat (first | (with_reducible first | exact HB.out | apply zaq | apply zbq | apply zcq | refine zdq ?_ GE733.out | refine zdq ?_ GE734.out | refine zdq ?_ GE739.out | refine zdq ?_ GE743.out | refine zdq ?_ GE766.out) | exact HB.out)) hb); clear BK733; clear BK734; clear BK739; clear BK743; clear BK766; clear HB; have BK733 := n0_; have BK734 := n1_; have BK739 := n2_; have BK743 := n3_; have BK766 := n4_; have HB := n5_; clear n0_ n1_ n2_ n3_ n4_ n5_; (try clear hb); (try clear hb2); (try clear hk); (try clear hi); have hcz143_0 : w142.cell? ⟨gb733, 0, none⟩ = some (.int .u64 a0_0) := (zmq BK733.out 0).trans rfl; have hcz143_1 : w142.cell? ⟨gb733, 1, none⟩ = some (.int .u64 a0_1) := (zmq BK733.out 1).trans rfl; have hfz143_0 := znq BK733.out 0; have hfz143_1 := znq BK733.out 1) | ((with_reducible refine zoq (f := 53) rfl ?_); refine goesL_ (some 122) rfl rfl Try.func53 (by kernel_rfl) rfl #[.agg #[.int .u64 a0_0, .int .u64 a0_1], .int .i64 x18_92] rfl (by (try simp only [List.map_toArray, List.map_cons, List.map_nil]); first | done | rfl | (simp only [List.length_drop, List.length_take]; rfl)) ?_; (with_reducible refine (wide_Shl.calls a0_0 a0_1 x18_92 t770 t771 _ A134.out).mono ?_); rintro e w144 ⟨rfl, hb⟩; refine ⟨_, rfl, ?_⟩; have n0_ := zA (zlq (g := gb733) (o := .cells #[.int .u64 a0_0, .int .u64 a0_1] 24 (0, 0)) (by (with_reducible repeat (first | refine zgq ?_ _ | refine zhq ?_ | refine ziq ?_ _)); exact BK733.out) hb); have n1_ := zA (zlq (g := gb734) (o := .cells #[.int .u64 a1_0, .int .u64 a1_1] 24 (0, 0)) (by (with_reducible repeat (first | refine zgq ?_ _ | refine zhq ?_ | refine ziq ?_ _)); exact BK734.out) hb); have n2_ := zA (zlq (g := gb739) (o := .cells #[.int .u64 t736, .int .u64 t737] 24 (0, 0)) (by (with_reducible repeat (first | refine zgq ?_ _ | refine zhq ?_ | refine ziq ?_ _)); exact BK739.out) hb); have n3_ := zA (zlq (g := gb743) (o := .cells #[.int .u64 t740, .int .u64 t741] 24 (0, 0)) (by (with_reducible repeat (first | refine zgq ?_ _ | refine zhq ?_ | refine ziq ?_ _)); exact BK743.out) hb); have n4_ := zA (zlq (g := gb766) (o := .cells #[.int .u64 t762, .int .u64 t763, .int .u64 t764] 69 (0, 0)) (by (with_reducible repeat (first | refine zgq ?_ _ | refine zhq ?_ | refine ziq ?_ _)); exact BK766.out) hb); have n5_ := zA (zeq (by repeat (first | (with_reducible first | exact HB.out | apply zaq | apply zbq | apply zcq | refine zdq ?_ GE733.out | refine zdq ?_ GE734.out | refine zdq ?_ GE739.out | refine zdq ?_ GE743.out | refine zdq ?_ GE766.out) | exact HB.out)) hb); clear BK733; clear BK734; clear BK739; clear BK743; clear BK766; clear HB; have BK733 := n0_; have BK734 := n1_; have BK739 := n2_; have BK743 := n3_; have BK766 := n4_; have HB := n5_; clear n0_ n1_ n2_ n3_ n4_ n5_; (try clear hb); (try clear hb2); (try clear hk); (try clear hi)) | ((with_reducible refine zoq (f := 51) rfl ?_); refine goesL_ (some 124) rfl rfl Try.func51 (by kernel_rfl) rfl #[.agg #[.int .u64 t770, .int .u64 t771], .int .i64 x18_92] rfl (by (try simp only [List.map_toArray, List.map_cons, List.map_nil]); first | done | rfl | (simp only [List.length_drop, List.length_take]; rfl)) ?_; (with_reducible refine (wide_Shr.calls kj99 t770 t771 x18_92 t772 t773 t774 _ A135.out).mono ?_); rintro e w145 ⟨rfl, hb⟩; refine ⟨_, rfl, ?_⟩; have n0_ := zA (zlq (g := gb733) (o := .cells #[.int .u64 a0_0, .int .u64 a0_1] 24 (0, 0)) (by (with_reducible repeat (first | refine zgq ?_ _ | refine zhq ?_ | refine ziq ?_ _)); exact BK733.out) hb); have n1_ := zA (zlq (g := gb734) (o := .cells #[.int .u64 a1_0, .int .u64 a1_1] 24 (0, 0)) (by (with_reducible repeat (first | refine zgq ?_ _ | refine zhq ?_ | refine ziq ?_ _)); exact BK734.out) hb); have n2_ := zA (zlq (g := gb739) (o := .cells #[.int .u64 t736, .int .u64 t737] 24 (0, 0)) (by (with_reducible repeat (first | refine zgq ?_ _ | refine zhq ?_ | refine ziq ?_ _)); exact BK739.out) hb); have n3_ := zA (zlq (g := gb743) (o := .cells #[.int .u64 t740, .int .u64 t741] 24 (0, 0)) (by (with_reducible repeat (first | refine zgq ?_ _ | refine zhq ?_ | refine ziq ?_ _)); exact BK743.out) hb); have n4_ := zA (zlq (g := gb766) (o := .cells #[.int .u64 t762, .int .u64 t763, .int .u64 t764] 69 (0, 0)) (by (with_reducible repeat (first | refine zgq ?_ _ | refine zhq ?_ | refine ziq ?_ _)); exact BK766.out) hb); have n5_ := zA (zeq (by repeat (first | (with_reducible first | exact HB.out | apply zaq | apply zbq | apply zcq | refine zdq ?_ GE733.out | refine zdq ?_ GE734.out | refine zdq ?_ GE739.out | refine zdq ?_ GE743.out | refine zdq ?_ GE766.out) | exact HB.out)) hb); clear BK733; clear BK734; clear BK739; clear BK743; clear BK766; clear HB; have BK733 := n0_; have BK734 := n1_; have BK739 := n2_; have BK743 := n3_; have BK766 := n4_; have HB := n5_; clear n0_ n1_ n2_ n3_ n4_ n5_; (try clear hb); (try clear hb2); (try clear hk); (try clear hi)) | ((with_reducible refine zpq (N := 21) rfl ?_); refine zqq ?hg (N := 21) ?hd (cs := #[.int .u64 0, .int .u64 0]) (t := 24) ?hr ?_; (case hd => rfl); (case hg => rfl); (case hr => first | (go_simp; done) | (go_simp; rfl)); intro gb775 hg w146 hbox hb; have n0_ := zA (zlq (g := gb733) (o := .cells #[.int .u64 a0_0, .int .u64 a0_1] 24 (0, 0)) (by (with_reducible repeat (first | refine zgq ?_ _ | refine zhq ?_ | refine ziq ?_ _)); exact BK733.out) hb); have n1_ := zA (zlq (g := gb734) (o := .cells #[.int .u64 a1_0, .int .u64 a1_1] 24 (0, 0)) (by (with_reducible repeat (first | refine zgq ?_ _ | refine zhq ?_ | refine ziq ?_ _)); exact BK734.out) hb); have n2_ := zA (zlq (g := gb739) (o := .cells #[.int .u64 t736, .int .u64 t737] 24 (0, 0)) (by (with_reducible repeat (first | refine zgq ?_ _ | refine zhq ?_ | refine ziq ?_ _)); exact BK739.out) hb); have n3_ := zA (zlq (g := gb743) (o := .cells #[.int .u64 t740, .int .u64 t741] 24 (0, 0)) (by (with_reducible repeat (first | refine zgq ?_ _ | refine zhq ?_ | refine ziq ?_ _)); exact BK743.out) hb); have n4_ := zA (zlq (g := gb766) (o := .cells #[.int .u64 t762, .int .u64 t763, .int .u64 t764] 69 (0, 0)) (by (with_reducible repeat (first | refine zgq ?_ _ | refine zhq ?_ | refine ziq ?_ _)); exact BK766.out) hb); have n5_ := zA (zeq (by repeat (first | (with_reducible first | exact HB.out | apply zaq | apply zbq | apply zcq | refine zdq ?_ GE733.out | refine zdq ?_ GE734.out | refine zdq ?_ GE739.out | refine zdq ?_ GE743.out | refine zdq ?_ GE766.out) | exact HB.out)) hb); have n6_ := zA (hbox); have n7_ := zA ((by rw [hg]; exact (zfq (by repeat (first | (with_reducible first | exact HB.out | apply zaq | apply zbq | apply zcq | refine zdq ?_ GE733.out | refine zdq ?_ GE734.out | refine zdq ?_ GE739.out | refine zdq ?_ GE743.out | refine zdq ?_ GE766.out) | exact HB.out))) : w.heap.size ≤ gb775)); have n8_ := zA ((by rw [hg]; exact (zfq (by repeat (first | (with_reducible first | exact HB.out | apply zaq | apply zbq | apply zcq | refine zdq ?_ GE733.out | refine zdq ?_ GE734.out | refine zdq ?_ GE739.out | refine zdq ?_ GE743.out | refine zdq ?_ GE766.out) | exact HB.out))) : w.heap.size ≤ gb775)); have n9_ := zA ((by rw [hg]; exact Nat.ne_of_lt (blk_lt (g := gb733) (o := .cells #[.int .u64 a0_0, .int .u64 a0_1] 24 (0, 0)) (by (with_reducible repeat (first | refine zgq ?_ _ | refine zhq ?_ | refine ziq ?_ _)); exact BK733.out)) : gb733 ≠ gb775)); have n10_ := zA ((by rw [hg]; exact Nat.ne_of_gt (blk_lt (g := gb733) (o := .cells #[.int .u64 a0_0, .int .u64 a0_1] 24 (0, 0)) (by (with_reducible repeat (first | refine zgq ?_ _ | refine zhq ?_ | refine ziq ?_ _)); exact BK733.out)) : gb775 ≠ gb733)); have n11_ := zA ((by rw [hg]; exact Nat.ne_of_lt (blk_lt (g := gb734) (o := .cells #[.int .u64 a1_0, .int .u64 a1_1] 24 (0, 0)) (by (with_reducible repeat (first | refine zgq ?_ _ | refine zhq ?_ | refine ziq ?_ _)); exact BK734.out)) : gb734 ≠ gb775)); have n12_ := zA ((by rw [hg]; exact Nat.ne_of_gt (blk_lt (g := gb734) (o := .cells #[.int .u64 a1_0, .int .u64 a1_1] 24 (0, 0)) (by (with_reducible repeat (first | refine zgq ?_ _ | refine zhq ?_ | refine ziq ?_ _)); exact BK734.out)) : gb775 ≠ gb734)); have n13_ := zA ((by rw [hg]; exact Nat.ne_of_lt (blk_lt (g := gb739) (o := .cells #[.int .u64 t736, .int .u64 t737] 24 (0, 0)) (by (with_reducible repeat (first | refine zgq ?_ _ | refine zhq ?_ | refine ziq ?_ _)); exact BK739.out)) : gb739 ≠ gb775)); have n14_ := zA ((by rw [hg]; exact Nat.ne_of_gt (blk_lt (g := gb739) (o := .cells #[.int .u64 t736, .int .u64 t737] 24 (0, 0)) (by (with_reducible repeat (first | refine zgq ?_ _ | refine zhq ?_ | refine ziq ?_ _)); exact BK739.out)) : gb775 ≠ gb739)); have n15_ := zA ((by rw [hg]; exact Nat.ne_of_lt (blk_lt (g := gb743) (o := .cells #[.int .u64 t740, .int .u64 t741] 24 (0, 0)) (by (with_reducible repeat (first | refine zgq ?_ _ | refine zhq ?_ | refine ziq ?_ _)); exact BK743.out)) : gb743 ≠ gb775)); have n16_ := zA ((by rw [hg]; exact Nat.ne_of_gt (blk_lt (g := gb743) (o := .cells #[.int .u64 t740, .int .u64 t741] 24 (0, 0)) (by (with_reducible repeat (first | refine zgq ?_ _ | refine zhq ?_ | refine ziq ?_ _)); exact BK743.out)) : gb775 ≠ gb743)); have n17_ := zA ((by rw [hg]; exact Nat.ne_of_lt (blk_lt (g := gb766) (o := .cells #[.int .u64 t762, .int .u64 t763, .int .u64 t764] 69 (0, 0)) (by (with_reducible repeat (first | refine zgq ?_ _ | refine zhq ?_ | refine ziq ?_ _)); exact BK766.out)) : gb766 ≠ gb775)); have n18_ := zA ((by rw [hg]; exact Nat.ne_of_gt (blk_lt (g := gb766) (o := .cells #[.int .u64 t762, .int .u64 t763, .int .u64 t764] 69 (0, 0)) (by (with_reducible repeat (first | refine zgq ?_ _ | refine zhq ?_ | refine ziq ?_ _)); exact BK766.out)) : gb775 ≠ gb766)); clear BK733; clear BK734; clear BK739; clear BK743; clear BK766; clear HB; have BK733 := n0_; have BK734 := n1_; have BK739 := n2_; have BK743 := n3_; have BK766 := n4_; have HB := n5_; have BK775 := n6_; have GW775 := n7_; have GE775 := n8_; have NB733_775 := n9_; have NB775_733 := n10_; have NB734_775 := n11_; have NB775_734 := n12_; have NB739_775 := n13_; have NB775_739 := n14_; have NB743_775 := n15_; have NB775_743 := n16_; have NB766_775 := n17_; have NB775_766 := n18_; clear n0_ n1_ n2_ n3_ n4_ n5_ n6_ n7_ n8_ n9_ n10_ n11_ n12_ n13_ n14_ n15_ n16_ n17_ n18_; clear hb hbox hg; have hnb147 := NB775_733.out; have hnc147 := NB733_775.out; have hnb148 := NB775_734.out; have hnc148 := NB734_775.out; have hnb149 := NB775_739.out; have hnc149 := NB739_775.out; have hnb150 := NB775_743.out; have hnc150 := NB743_775.out; have hnb151 := NB775_766.out; have hnc151 := NB766_775.out; have hcz152_0 : w146.cell? ⟨gb775, 0, none⟩ = some (.int .u64 0) := (zmq BK775.out 0).trans rfl; have hcz152_1 : w146.cell? ⟨gb775, 1, none⟩ = some (.int .u64 0) := (zmq BK775.out 1).trans rfl; have hfz152_0 := znq BK775.out 0; have hfz152_1 := znq BK775.out 1; have hcz153_0 : w146.cell? ⟨gb733, 0, none⟩ = some (.int .u64 a0_0) := (zmq BK733.out 0).trans rfl; have hcz153_1 : w146.cell? ⟨gb733, 1, none⟩ = some (.int .u64 a0_1) := (zmq BK733.out 1).trans rfl; have hfz153_0 := znq BK733.out 0; have hfz153_1 := znq BK733.out 1))
               go_ret
               exact ⟨by first | rfl | (simp [errW_none, errW_some] <;> rfl) | (simp only [← hji95, ← hji97]; first | rfl | (simp [errW_none, errW_some] <;> rfl)) | (simp [*, errW_none, errW_some] <;> rfl), by repeat (first | (with_reducible first | exact HB.out | apply zaq | apply zbq | apply zcq | refine zdq ?_ GE733.out | refine zdq ?_ GE734.out | refine zdq ?_ GE739.out | refine zdq ?_ GE743.out | refine zdq ?_ GE766.out | refine zdq ?_ GE775.out) | exact HB.out)⟩
              ·
               rw [if_neg c136] at H
               exact absurd H (by simp)
         ·
          rw [if_neg c96] at H
          exact absurd H (by simp)
 ·
  replace c5 := Bool.eq_false_iff.mpr c5
  subst c5
  have H1 : (none) = some r := by rw [if_neg (show ¬ (false = true) by decide)] at H; exact H
  clear H
  have H := H1
  clear H1
  exact absurd H (by simp)

end Go.Proofs.Ytbejjlecpcphoaa.P
