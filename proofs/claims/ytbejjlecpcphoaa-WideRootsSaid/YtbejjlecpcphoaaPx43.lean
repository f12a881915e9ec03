-- Written by a program of this session's (a turned print), not by hand.
import Derived.Test.YtbejjlecpcphoaaPx0
import Derived.Test.YtbejjlecpcphoaaPx1
import Derived.Test.YtbejjlecpcphoaaPx18
import Derived.Test.YtbejjlecpcphoaaPx28
import Derived.Test.YtbejjlecpcphoaaPx30
import Derived.Test.YtbejjlecpcphoaaPx32
namespace Go.Proofs.Ytbejjlecpcphoaa.P
open Go.RowKit Go.Proofs.YtbejjlecpcphoaaW.PrintWords Go.Proofs.YtbejjlecpcphoaaW.PrintLast Go.Proofs.YtbejjlecpcphoaaW.PrintMore
attribute [local go_sem] max2_int min2_int max_two min_two max_three min_three max_four min_four   -- for this text's walks alone
set_option linter.unusedVariables false
set_option linter.unusedSimpArgs false

attribute [local go_sem high] eqA24
/-! ### tabardlaw2_WideRoots: function 13 -/
def tabardlaw2_WideRoots.f (k : Nat) (a0_0 : Int) (a0_1 : Int) : Option (Bool) := (tabardlaw2_shown.f k).bind fun t777 => (if t777 = true then ((wide_Root.f k a0_0 a0_1).bind fun bt778 => ((wide_Mul.f bt778.1 bt778.1).bind fun bt780 => ((wide_Cmp.f bt780.1 bt780.2 a0_0 a0_1).bind fun t783 => (if t783 > 0 then (none) else (if (bt778.2 != (bt780.1 == a0_0 && (bt780.2 == a0_1))) = true then (none) else (if bt778.1 = 18446744073709551615 then (some true) else ((wide_Mul.f (IntKind.u64.wrap (bt778.1 + 1)) (IntKind.u64.wrap (bt778.1 + 1))).bind fun bt784 => ((wide_Cmp.f bt784.1 bt784.2 a0_0 a0_1).bind fun t786 => (some (decide (t786 > 0))))))))))) else (none))
theorem tabardlaw2_WideRoots.mono : ∀ a0 a1 k, LeO (tabardlaw2_WideRoots.f k a0 a1) (tabardlaw2_WideRoots.f (k + 1) a0 a1) := by
 intro a0 a1 k
 unfold tabardlaw2_WideRoots.f
 repeat' first
   | (with_reducible exact tabardlaw2_shown.mono _)
   | (with_reducible exact wide_Root.mono _ _ _)
   | (with_reducible exact LeO.refl _)
   | (with_reducible exact LeO.none _)
   | (with_reducible refine LeO.ite ?_ ?_)
   | (with_reducible refine LeO.bind ?_ (fun _ => ?_))
   | exact tabardlaw2_shown.mono _
   | exact wide_Root.mono _ _ _
   | exact LeO.none _
   | refine LeO.ite ?_ ?_
   | refine LeO.bind ?_ (fun _ => ?_)
def tabardlaw2_WideRoots.T10 : Bool × List (List Nat × List Nat) := (true, [([], []), ([0], [0]), ([], []), ([2], [2]), ([1, 3], [1, 3]), ([], []), ([4, 5, 4], [4, 5]), ([6], [6]), ([7, 6, 0, 1, 2, 3, 4, 5, 6, 7], [7])])
def tabardlaw2_WideRoots.B10 : List Nat := [0, 1, 0, 4, 15, 0, 63, 127, 255]
theorem tabardlaw2_WideRoots.tab10 : rtab .any (opsOf Try.f13 10) = tabardlaw2_WideRoots.T10 := by kernel_rfl
theorem tabardlaw2_WideRoots.bits10 : waitsOk tabardlaw2_WideRoots.T10.2 tabardlaw2_WideRoots.B10 = true := by kernel_rfl
set_option maxHeartbeats 8000000 in
set_option maxRecDepth 100000 in
theorem tabardlaw2_WideRoots.calls (k : Nat) (a0_0 : Int) (a0_1 : Int) (r : Bool) (w : World) (h : tabardlaw2_WideRoots.f k a0_0 a0_1 = some r) :
  Calls Try.prog 13 #[.agg #[.int .u64 a0_0, .int .u64 a0_1]] w fun e w' => e = .returned (.bool r) ∧ Below w.heap.size w w' := by
 have hu24 := Try.underlying24
 have HB := zA (Below.refl w.heap.size w)
 have H : ((tabardlaw2_shown.f k).bind fun t777 => (if t777 = true then ((wide_Root.f k a0_0 a0_1).bind fun bt778 => ((wide_Mul.f bt778.1 bt778.1).bind fun bt780 => ((wide_Cmp.f bt780.1 bt780.2 a0_0 a0_1).bind fun t783 => (if t783 > 0 then (none) else (if (bt778.2 != (bt780.1 == a0_0 && (bt780.2 == a0_1))) = true then (none) else (if bt778.1 = 18446744073709551615 then (some true) else ((wide_Mul.f (IntKind.u64.wrap (bt778.1 + 1)) (IntKind.u64.wrap (bt778.1 + 1))).bind fun bt784 => ((wide_Cmp.f bt784.1 bt784.2 a0_0 a0_1).bind fun t786 => (some (decide (t786 > 0))))))))))) else (none))) = some r := h
 clear h
 replace H := Option.bind_eq_some_iff.mp H
 obtain ⟨t777, A20, H⟩ := H
 replace H : (if t777 = true then ((wide_Root.f k a0_0 a0_1).bind fun bt778 => ((wide_Mul.f bt778.1 bt778.1).bind fun bt780 => ((wide_Cmp.f bt780.1 bt780.2 a0_0 a0_1).bind fun t783 => (if t783 > 0 then (none) else (if (bt778.2 != (bt780.1 == a0_0 && (bt780.2 == a0_1))) = true then (none) else (if bt778.1 = 18446744073709551615 then (some true) else ((wide_Mul.f (IntKind.u64.wrap (bt778.1 + 1)) (IntKind.u64.wrap (bt778.1 + 1))).bind fun bt784 => ((wide_Cmp.f bt784.1 bt784.2 a0_0 a0_1).bind fun t786 => (some (decide (t786 > 0))))))))))) else (none)) = some r := H
 have A2 := zA A20
 clear A20
 by_cases c3 : t777 = true
 ·
  subst c3
  have H1 : ((wide_Root.f k a0_0 a0_1).bind fun bt778 => ((wide_Mul.f bt778.1 bt778.1).bind fun bt780 => ((wide_Cmp.f bt780.1 bt780.2 a0_0 a0_1).bind fun t783 => (if t783 > 0 then (none) else (if (bt778.2 != (bt780.1 == a0_0 && (bt780.2 == a0_1))) = true then (none) else (if bt778.1 = 18446744073709551615 then (some true) else ((wide_Mul.f (IntKind.u64.wrap (bt778.1 + 1)) (IntKind.u64.wrap (bt778.1 + 1))).bind fun bt784 => ((wide_Cmp.f bt784.1 bt784.2 a0_0 a0_1).bind fun t786 => (some (decide (t786 > 0))))))))))) = some r := by rw [if_pos rfl] at H; exact H
  clear H
  have H := H1
  clear H1
  replace H := Option.bind_eq_some_iff.mp H
  obtain ⟨⟨t778, t779⟩, A40, H⟩ := H
  replace H : ((wide_Mul.f t778 t778).bind fun bt780 => ((wide_Cmp.f bt780.1 bt780.2 a0_0 a0_1).bind fun t783 => (if t783 > 0 then (none) else (if (t779 != (bt780.1 == a0_0 && (bt780.2 == a0_1))) = true then (none) else (if t778 = 18446744073709551615 then (some true) else ((wide_Mul.f (IntKind.u64.wrap (t778 + 1)) (IntKind.u64.wrap (t778 + 1))).bind fun bt784 => ((wide_Cmp.f bt784.1 bt784.2 a0_0 a0_1).bind fun t786 => (some (decide (t786 > 0)))))))))) = some r := H
  have A4 := zA A40
  clear A40
  replace H := Option.bind_eq_some_iff.mp H
  obtain ⟨⟨t780, t781⟩, A50, H⟩ := H
  replace H : ((wide_Cmp.f t780 t781 a0_0 a0_1).bind fun t783 => (if t783 > 0 then (none) else (if (t779 != (t780 == a0_0 && (t781 == a0_1))) = true then (none) else (if t778 = 18446744073709551615 then (some true) else ((wide_Mul.f (IntKind.u64.wrap (t778 + 1)) (IntKind.u64.wrap (t778 + 1))).bind fun bt784 => ((wide_Cmp.f bt784.1 bt784.2 a0_0 a0_1).bind fun t786 => (some (decide (t786 > 0))))))))) = some r := H
  have A5 := zA A50
  clear A50
  replace H := Option.bind_eq_some_iff.mp H
  obtain ⟨t783, A60, H⟩ := H
  replace H : (if t783 > 0 then (none) else (if (t779 != (t780 == a0_0 && (t781 == a0_1))) = true then (none) else (if t778 = 18446744073709551615 then (some true) else ((wide_Mul.f (IntKind.u64.wrap (t778 + 1)) (IntKind.u64.wrap (t778 + 1))).bind fun bt784 => ((wide_Cmp.f bt784.1 bt784.2 a0_0 a0_1).bind fun t786 => (some (decide (t786 > 0)))))))) = some r := H
  have A6 := zA A60
  clear A60
  by_cases c7 : t783 > 0
  ·
   rw [if_pos c7] at H
   exact absurd H (by simp)
  ·
   rw [if_neg c7] at H
   have c7b0 : decide (0 < t783) = false := decide_eq_false c7
   clear c7
   by_cases c8 : (t779 != (t780 == a0_0 && (t781 == a0_1))) = true
   ·
    rw [if_pos c8] at H
    exact absurd H (by simp)
   ·
    rw [if_neg c8] at H
    have c8b0 : (t779 != (t780 == a0_0 && (t781 == a0_1))) = false := by simpa using c8
    (try (have c8b1 : decide (t779 = (t780 == a0_0 && (t781 == a0_1))) = true := by simpa using c8))
    (try (have c8b2 : (t779 == (t780 == a0_0 && (t781 == a0_1))) = true := by simpa using c8))
    clear c8
    by_cases c9 : t778 = 18446744073709551615
    ·
     rw [if_pos c9] at H
     have c9b0 : (t778 == 18446744073709551615) = true := beq_iff_eq.mpr c9
     have c9b1 : (t778 != 18446744073709551615) = false := bne_eq_false_iff_eq.mpr c9
     clear c9
     obtain rfl := Option.some.inj H
     go_enter Try.func13, Try.ntmps13
     go_wp2_with (first | ((with_reducible refine zpq (N := 1) rfl ?_); refine zqq ?hg (N := 1) ?hd (cs := #[.int .u64 a0_0, .int .u64 a0_1]) (t := 24) ?hr ?_; (case hd => rfl); (case hg => rfl); (case hr => first | (go_simp; done) | (go_simp; rfl)); intro gb776 hg w10 hbox hb; have n0_ := zA (zeq (by repeat (first | (with_reducible first | exact HB.out | apply zaq | apply zbq | apply zcq) | exact HB.out)) hb); have n1_ := zA (hbox); have n2_ := zA ((by rw [hg]; exact (zfq (by repeat (first | (with_reducible first | exact HB.out | apply zaq | apply zbq | apply zcq) | exact HB.out))) : w.heap.size ≤ gb776)); have n3_ := zA ((by rw [hg]; exact (zfq (by repeat (first | (with_reducible first | exact HB.out | apply zaq | apply zbq | apply zcq) | exact HB.out))) : w.heap.size ≤ gb776)); clear HB; have HB := n0_; have BK776 := n1_; have GW776 := n2_; have GE776 := n3_; clear n0_ n1_ n2_ n3_; clear hb hbox hg) | ((with_reducible refine zoq (f := 39) rfl ?_); refine goesL_ (some 7) rfl rfl Try.func39 (by kernel_rfl) rfl #[] rfl (by (try simp only [List.map_toArray, List.map_cons, List.map_nil]); first | done | rfl | (simp only [List.length_drop, List.length_take]; rfl)) ?_; (with_reducible refine (tabardlaw2_shown.calls k  true _ A2.out).mono ?_); rintro e w11 ⟨rfl, hb⟩; refine ⟨_, rfl, ?_⟩; have n0_ := zA (zlq (g := gb776) (o := .cells #[.int .u64 a0_0, .int .u64 a0_1] 24 (0, 0)) (by (with_reducible repeat (first | refine zgq ?_ _ | refine zhq ?_ | refine ziq ?_ _)); exact BK776.out) hb); have n1_ := zA (zeq (by repeat (first | (with_reducible first | exact HB.out | apply zaq | apply zbq | apply zcq | refine zdq ?_ GE776.out) | exact HB.out)) hb); clear BK776; clear HB; have BK776 := n0_; have HB := n1_; clear n0_ n1_; (try clear hb); (try clear hb2); (try clear hk); (try clear hi); have hcz12_0 : w11.cell? ⟨gb776, 0, none⟩ = some (.int .u64 a0_0) := (zmq BK776.out 0).trans rfl; have hcz12_1 : w11.cell? ⟨gb776, 1, none⟩ = some (.int .u64 a0_1) := (zmq BK776.out 1).trans rfl; have hfz12_0 := znq BK776.out 0; have hfz12_1 := znq BK776.out 1) | ((with_reducible refine zoq (f := 58) rfl ?_); refine goesL_ (some 12) rfl rfl Try.func58 (by kernel_rfl) rfl #[.agg #[.int .u64 a0_0, .int .u64 a0_1]] rfl (by (try simp only [List.map_toArray, List.map_cons, List.map_nil]); first | done | rfl | (simp only [List.length_drop, List.length_take]; rfl)) ?_; (with_reducible refine (wide_Root.calls k a0_0 a0_1 t778 t779 _ A4.out).mono ?_); rintro e w13 ⟨rfl, hb⟩; refine ⟨_, rfl, ?_⟩; have n0_ := zA (zlq (g := gb776) (o := .cells #[.int .u64 a0_0, .int .u64 a0_1] 24 (0, 0)) (by (with_reducible repeat (first | refine zgq ?_ _ | refine zhq ?_ | refine ziq ?_ _)); exact BK776.out) hb); have n1_ := zA (zeq (by repeat (first | (with_reducible first | exact HB.out | apply zaq | apply zbq | apply zcq | refine zdq ?_ GE776.out) | exact HB.out)) hb); clear BK776; clear HB; have BK776 := n0_; have HB := n1_; clear n0_ n1_; (try clear hb); (try clear hb2); (try clear hk); (try clear hi)) | ((with_reducible refine zoq (f := 46) rfl ?_); refine goesL_ (some 17) rfl rfl Try.func46 (by kernel_rfl) rfl #[.int .u64 t778, .int .u64 t778] rfl (by (try simp only [List.map_toArray, List.map_cons, List.map_nil]); first | done | rfl | (simp only [List.length_drop, List.length_take]; rfl)) ?_; (with_reducible refine (wide_Mul.calls t778 t778 t780 t781 _ A5.out).mono ?_); rintro e w14 ⟨rfl, hb⟩; refine ⟨_, rfl, ?_⟩; have n0_ := zA (zlq (g := gb776) (o := .cells #[.int .u64 a0_0, .int .u64 a0_1] 24 (0, 0)) (by (with_reducible repeat (first | refine zgq ?_ _ | refine zhq ?_ | refine ziq ?_ _)); exact BK776.out) hb); have n1_ := zA (zeq (by repeat (first | (with_reducible first | exact HB.out | apply zaq | apply zbq | apply zcq | refine zdq ?_ GE776.out) | exact HB.out)) hb); clear BK776; clear HB; have BK776 := n0_; have HB := n1_; clear n0_ n1_; (try clear hb); (try clear hb2); (try clear hk); (try clear hi)) | ((with_reducible refine zpq (N := 6) rfl ?_); refine zqq ?hg (N := 6) ?hd (cs := #[.int .u64 0, .int .u64 0]) (t := 24) ?hr ?_; (case hd => rfl); (case hg => rfl); (case hr => first | (go_simp; done) | (go_simp; rfl)); intro gb782 hg w15 hbox hb; have n0_ := zA (zlq (g := gb776) (o := .cells #[.int .u64 a0_0, .int .u64 a0_1] 24 (0, 0)) (by (with_reducible repeat (first | refine zgq ?_ _ | refine zhq ?_ | refine ziq ?_ _)); exact BK776.out) hb); have n1_ := zA (zeq (by repeat (first | (with_reducible first | exact HB.out | apply zaq | apply zbq | apply zcq | refine zdq ?_ GE776.out) | exact HB.out)) hb); have n2_ := zA (hbox); have n3_ := zA ((by rw [hg]; exact (zfq (by repeat (first | (with_reducible first | exact HB.out | apply zaq | apply zbq | apply zcq | refine zdq ?_ GE776.out) | exact HB.out))) : w.heap.size ≤ gb782)); have n4_ := zA ((by rw [hg]; exact (zfq (by repeat (first | (with_reducible first | exact HB.out | apply zaq | apply zbq | apply zcq | refine zdq ?_ GE776.out) | exact HB.out))) : w.heap.size ≤ gb782)); have n5_ := zA ((by rw [hg]; exact Nat.ne_of_lt (blk_lt (g := gb776) (o := .cells #[.int .u64 a0_0, .int .u64 a0_1] 24 (0, 0)) (by (with_reducible repeat (first | refine zgq ?_ _ | refine zhq ?_ | refine ziq ?_ _)); exact BK776.out)) : gb776 ≠ gb782)); have n6_ := zA ((by rw [hg]; exact Nat.ne_of_gt (blk_lt (g := gb776) (o := .cells #[.int .u64 a0_0, .int .u64 a0_1] 24 (0, 0)) (by (with_reducible repeat (first | refine zgq ?_ _ | refine zhq ?_ | refine ziq ?_ _)); exact BK776.out)) : gb782 ≠ gb776)); clear BK776; clear HB; have BK776 := n0_; have HB := n1_; have BK782 := n2_; have GW782 := n3_; have GE782 := n4_; have NB776_782 := n5_; have NB782_776 := n6_; clear n0_ n1_ n2_ n3_ n4_ n5_ n6_; clear hb hbox hg; have hnb16 := NB782_776.out; have hnc16 := NB776_782.out; have hcz17_0 : w15.cell? ⟨gb782, 0, none⟩ = some (.int .u64 0) := (zmq BK782.out 0).trans rfl; have hcz17_1 : w15.cell? ⟨gb782, 1, none⟩ = some (.int .u64 0) := (zmq BK782.out 1).trans rfl; have hfz17_0 := znq BK782.out 0; have hfz17_1 := znq BK782.out 1; have hcz18_0 : w15.cell? ⟨gb776, 0, none⟩ = some (.int .u64 a0_0) := (zmq BK776.out 0).trans rfl; have hcz18_1 : w15.cell? ⟨gb776, 1, none⟩ = some (.int .u64 a0_1) := (zmq BK776.out 1).trans rfl; have hfz18_0 := znq BK776.out 0; have hfz18_1 := znq BK776.out 1) | ((with_reducible refine zoq (f := 27) rfl ?_); refine goesL_ (some 20) rfl rfl Try.func27 (by kernel_rfl) rfl #[.agg #[.int .u64 t780, .int .u64 t781], .agg #[.int .u64 a0_0, .int .u64 a0_1]] rfl (by (try simp only [List.map_toArray, List.map_cons, List.map_nil]); first | done | rfl | (simp only [List.length_drop, List.length_take]; rfl)) ?_; (with_reducible refine (wide_Cmp.calls t780 t781 a0_0 a0_1 t783 _ A6.out).mono ?_); rintro e w19 ⟨rfl, hb⟩; refine ⟨_, rfl, ?_⟩; have n0_ := zA (zlq (g := gb776) (o := .cells #[.int .u64 a0_0, .int .u64 a0_1] 24 (0, 0)) (by (with_reducible repeat (first | refine zgq ?_ _ | refine zhq ?_ | refine ziq ?_ _)); refine zjq ?_ NB776_782.out _; (with_reducible repeat (first | refine zgq ?_ _ | refine zhq ?_ | refine ziq ?_ _)); refine zjq ?_ NB776_782.out _; (with_reducible repeat (first | refine zgq ?_ _ | refine zhq ?_ | refine ziq ?_ _)); exact BK776.out) hb); have n1_ := zA (zlq (g := gb782) (o := .cells #[.int .u64 t780, .int .u64 t781] 24 (0, 0)) (by (with_reducible repeat (first | refine zgq ?_ _ | refine zhq ?_ | refine ziq ?_ _)); refine zkq (cs := #[.int .u64 t780, .int .u64 0]) ?_ 1 _ rfl; (with_reducible repeat (first | refine zgq ?_ _ | refine zhq ?_ | refine ziq ?_ _)); refine zkq (cs := #[.int .u64 0, .int .u64 0]) ?_ 0 _ rfl; (with_reducible repeat (first | refine zgq ?_ _ | refine zhq ?_ | refine ziq ?_ _)); exact BK782.out) hb); have n2_ := zA (zeq (by repeat (first | (with_reducible first | exact HB.out | apply zaq | apply zbq | apply zcq | refine zdq ?_ GE776.out | refine zdq ?_ GE782.out) | exact HB.out)) hb); clear BK776; clear BK782; clear HB; have BK776 := n0_; have BK782 := n1_; have HB := n2_; clear n0_ n1_ n2_; (try clear hb); (try clear hb2); (try clear hk); (try clear hi); have hcz20_0 : w19.cell? ⟨gb782, 0, none⟩ = some (.int .u64 t780) := (zmq BK782.out 0).trans rfl; have hcz20_1 : w19.cell? ⟨gb782, 1, none⟩ = some (.int .u64 t781) := (zmq BK782.out 1).trans rfl; have hfz20_0 := znq BK782.out 0; have hfz20_1 := znq BK782.out 1; have hcz21_0 : w19.cell? ⟨gb776, 0, none⟩ = some (.int .u64 a0_0) := (zmq BK776.out 0).trans rfl; have hcz21_1 : w19.cell? ⟨gb776, 1, none⟩ = some (.int .u64 a0_1) := (zmq BK776.out 1).trans rfl; have hfz21_0 := znq BK776.out 0; have hfz21_1 := znq BK776.out 1))
     go_ret
     exact ⟨by first | rfl | (simp [errW_none, errW_some] <;> rfl) | (simp [*, errW_none, errW_some] <;> rfl), by repeat (first | (with_reducible first | exact HB.out | apply zaq | apply zbq | apply zcq | refine zdq ?_ GE776.out | refine zdq ?_ GE782.out) | exact HB.out)⟩
    ·
     rw [if_neg c9] at H
     have c9b0 : (t778 == 18446744073709551615) = false := beq_eq_false_iff_ne.mpr c9
     have c9b1 : (t778 != 18446744073709551615) = true := bne_iff_ne.mpr c9
     replace H := Option.bind_eq_some_iff.mp H
     obtain ⟨⟨t784, t785⟩, A220, H⟩ := H
     replace H : ((wide_Cmp.f t784 t785 a0_0 a0_1).bind fun t786 => (some (decide (t786 > 0)))) = some r := H
     have A22 := zA A220
     clear A220
     replace H := Option.bind_eq_some_iff.mp H
     obtain ⟨t786, A230, H⟩ := H
     replace H : (some (decide (t786 > 0))) = some r := H
     have A23 := zA A230
     clear A230
     obtain rfl := Option.some.inj H
     go_enter Try.func13, Try.ntmps13
     try go_wp2_with (first | ((with_reducible refine zpq (N := 1) rfl ?_); refine zqq ?hg (N := 1) ?hd (cs := #[.int .u64 a0_0, .int .u64 a0_1]) (t := 24) ?hr ?_; (case hd => rfl); (case hg => rfl); (case hr => first | (go_simp; done) | (go_simp; rfl)); intro gb776 hg w24 hbox hb; have n0_ := zA (zeq (by repeat (first | (with_reducible first | exact HB.out | apply zaq | apply zbq | apply zcq) | exact HB.out)) hb); have n1_ := zA (hbox); have n2_ := zA ((by rw [hg]; exact (zfq (by repeat (first | (with_reducible first | exact HB.out | apply zaq | apply zbq | apply zcq) | exact HB.out))) : w.heap.size ≤ gb776)); have n3_ := zA ((by rw [hg]; exact (zfq (by repeat (first | (with_reducible first | exact HB.out | apply zaq | apply zbq | apply zcq) | exact HB.out))) : w.heap.size ≤ gb776)); clear HB; have HB := n0_; have BK776 := n1_; have GW776 := n2_; have GE776 := n3_; clear n0_ n1_ n2_ n3_; clear hb hbox hg) | ((with_reducible refine zoq (f := 39) rfl ?_); refine goesL_ (some 7) rfl rfl Try.func39 (by kernel_rfl) rfl #[] rfl (by (try simp only [List.map_toArray, List.map_cons, List.map_nil]); first | done | rfl | (simp only [List.length_drop, List.length_take]; rfl)) ?_; (with_reducible refine (tabardlaw2_shown.calls k  true _ A2.out).mono ?_); rintro e w25 ⟨rfl, hb⟩; refine ⟨_, rfl, ?_⟩; have n0_ := zA (zlq (g := gb776) (o := .cells #[.int .u64 a0_0, .int .u64 a0_1] 24 (0, 0)) (by (with_reducible repeat (first | refine zgq ?_ _ | refine zhq ?_ | refine ziq ?_ _)); exact BK776.out) hb); have n1_ := zA (zeq (by repeat (first | (with_reducible first | exact HB.out | apply zaq | apply zbq | apply zcq | refine zdq ?_ GE776.out) | exact HB.out)) hb); clear BK776; clear HB; have BK776 := n0_; have HB := n1_; clear n0_ n1_; (try clear hb); (try clear hb2); (try clear hk); (try clear hi); have hcz26_0 : w25.cell? ⟨gb776, 0, none⟩ = some (.int .u64 a0_0) := (zmq BK776.out 0).trans rfl; have hcz26_1 : w25.cell? ⟨gb776, 1, none⟩ = some (.int .u64 a0_1) := (zmq BK776.out 1).trans rfl; have hfz26_0 := znq BK776.out 0; have hfz26_1 := znq BK776.out 1) | ((with_reducible refine zoq (f := 58) rfl ?_); refine goesL_ (some 12) rfl rfl Try.func58 (by kernel_rfl) rfl #[.agg #[.int .u64 a0_0, .int .u64 a0_1]] rfl (by (try simp only [List.map_toArray, List.map_cons, List.map_nil]); first | done | rfl | (simp only [List.length_drop, List.length_take]; rfl)) ?_; (with_reducible refine (wide_Root.calls k a0_0 a0_1 t778 t779 _ A4.out).mono ?_); rintro e w27 ⟨rfl, hb⟩; refine ⟨_, rfl, ?_⟩; have n0_ := zA (zlq (g := gb776) (o := .cells #[.int .u64 a0_0, .int .u64 a0_1] 24 (0, 0)) (by (with_reducible repeat (first | refine zgq ?_ _ | refine zhq ?_ | refine ziq ?_ _)); exact BK776.out) hb); have n1_ := zA (zeq (by repeat (first | (with_reducible first | exact HB.out | apply zaq | apply zbq | apply zcq | refine zdq ?_ GE776.out) | exact HB.out)) hb); clear BK776; clear HB; have BK776 := n0_; have HB := n1_; clear n0_ n1_; (try clear hb); (try clear hb2); (try clear hk); (try clear hi)) | ((with_reducible refine zoq (f := 46) rfl ?_); refine goesL_ (some 17) rfl rfl Try.func46 (by kernel_rfl) rfl #[.int .u64 t778, .int .u64 t778] rfl (by (try simp only [List.map_toArray, List.map_cons, List.map_nil]); first | done | rfl | (simp only [List.length_drop, List.length_take]; rfl)) ?_; (with_reducible refine (wide_Mul.calls t778 t778 t780 t781 _ A5.out).mono ?_); rintro e w28 ⟨rfl, hb⟩; refine ⟨_, rfl, ?_⟩; have n0_ := zA (zlq (g := gb776) (o := .cells #[.int .u64 a0_0, .int .u64 a0_1] 24 (0, 0)) (by (with_reducible repeat (first | refine zgq ?_ _ | refine zhq ?_ | refine ziq ?_ _)); exact BK776.out) hb); have n1_ := zA (zeq (by repeat (first | (with_reducible first | exact HB.out | apply zaq | apply zbq | apply zcq | refine zdq ?_ GE776.out) | exact HB.out)) hb); clear BK776; clear HB; have BK776 := n0_; have HB := n1_; clear n0_ n1_; (try clear hb); (try clear hb2); (try clear hk); (try clear hi)) | ((with_reducible refine zpq (N := 6) rfl ?_); refine zqq ?hg (N := 6) ?hd (cs := #[.int .u64 0, .int .u64 0]) (t := 24) ?hr ?_; (case hd => rfl); (case hg => rfl); (case hr => first | (go_simp; done) | (go_simp; rfl)); intro gb782 hg w29 hbox hb; have n0_ := zA (zlq (g := gb776) (o := .cells #[.int .u64 a0_0, .int .u64 a0_1] 24 (0, 0)) (by (with_reducible repeat (first | refine zgq ?_ _ | refine zhq ?_ | refine ziq ?_ _)); exact BK776.out) hb); have n1_ := zA (zeq (by repeat (first | (with_reducible first | exact HB.out | apply zaq | apply zbq | apply zcq | refine zdq ?_ GE776.out) | exact HB.out)) hb); have n2_ := zA (hbox); have n3_ := zA ((by rw [hg]; exact (zfq (by repeat (first | (with_reducible first | exact HB.out | apply zaq | apply zbq | apply zcq | refine zdq ?_ GE776.out) | exact HB.out))) : w.heap.size ≤ gb782)); have n4_ := zA ((by rw [hg]; exact (zfq (by repeat (first | (with_reducible first | exact HB.out | apply zaq | apply zbq | apply zcq | refine zdq ?_ GE776.out) | exact HB.out))) : w.heap.size ≤ gb782)); have n5_ := zA ((by rw [hg]; exact Nat.ne_of_lt (blk_lt (g := gb776) (o := .cells #[.int .u64 a0_0, .int .u64 a0_1] 24 (0, 0)) (by (with_reducible repeat (first | refine zgq ?_ _ | refine zhq ?_ | refine ziq ?_ _)); exact BK776.out)) : gb776 ≠ gb782)); have n6_ := zA ((by rw [hg]; exact Nat.ne_of_gt (blk_lt (g := gb776) (o := .cells #[.int .u64 a0_0, .int .u64 a0_1] 24 (0, 0)) (by (with_reducible repeat (first | refine zgq ?_ _ | refine zhq ?_ | refine ziq ?_ _)); exact BK776.out)) : gb782 ≠ gb776)); clear BK776; clear HB; have BK776 := n0_; have HB := n1_; have BK782 := n2_; have GW782 := n3_; have GE782 := n4_; have NB776_782 := n5_; have NB782_776 := n6_; clear n0_ n1_ n2_ n3_ n4_ n5_ n6_; clear hb hbox hg; have hnb30 := NB782_776.out; have hnc30 := NB776_782.out; have hcz31_0 : w29.cell? ⟨gb782, 0, none⟩ = some (.int .u64 0) := (zmq BK782.out 0).trans rfl; have hcz31_1 : w29.cell? ⟨gb782, 1, none⟩ = some (.int .u64 0) := (zmq BK782.out 1).trans rfl; have hfz31_0 := znq BK782.out 0; have hfz31_1 := znq BK782.out 1; have hcz32_0 : w29.cell? ⟨gb776, 0, none⟩ = some (.int .u64 a0_0) := (zmq BK776.out 0).trans rfl; have hcz32_1 : w29.cell? ⟨gb776, 1, none⟩ = some (.int .u64 a0_1) := (zmq BK776.out 1).trans rfl; have hfz32_0 := znq BK776.out 0; have hfz32_1 := znq BK776.out 1) | ((with_reducible refine zoq (f := 27) rfl ?_); refine goesL_ (some 20) rfl rfl Try.func27 (by kernel_rfl) rfl #[.agg #[.int .u64 t780, .int .u64 t781], .agg #[.int .u64 a0_0, .int .u64 a0_1]] rfl (by (try simp only [List.map_toArray, List.map_cons, List.map_nil]); first | done | rfl | (simp only [List.length_drop, List.length_take]; rfl)) ?_; (with_reducible refine (wide_Cmp.calls t780 t781 a0_0 a0_1 t783 _ A6.out).mono ?_); rintro e w33 ⟨rfl, hb⟩; refine ⟨_, rfl, ?_⟩; have n0_ := zA (zlq (g := gb776) (o := .cells #[.int .u64 a0_0, .int .u64 a0_1] 24 (0, 0)) (by (with_reducible repeat (first | refine zgq ?_ _ | refine zhq ?_ | refine ziq ?_ _)); refine zjq ?_ NB776_782.out _; (with_reducible repeat (first | refine zgq ?_ _ | refine zhq ?_ | refine ziq ?_ _)); refine zjq ?_ NB776_782.out _; (with_reducible repeat (first | refine zgq ?_ _ | refine zhq ?_ | refine ziq ?_ _)); exact BK776.out) hb); have n1_ := zA (zlq (g := gb782) (o := .cells #[.int .u64 t780, .int .u64 t781] 24 (0, 0)) (by (with_reducible repeat (first | refine zgq ?_ _ | refine zhq ?_ | refine ziq ?_ _)); refine zkq (cs := #[.int .u64 t780, .int .u64 0]) ?_ 1 _ rfl; (with_reducible repeat (first | refine zgq ?_ _ | refine zhq ?_ | refine ziq ?_ _)); refine zkq (cs := #[.int .u64 0, .int .u64 0]) ?_ 0 _ rfl; (with_reducible repeat (first | refine zgq ?_ _ | refine zhq ?_ | refine ziq ?_ _)); exact BK782.out) hb); have n2_ := zA (zeq (by repeat (first | (with_reducible first | exact HB.out | apply zaq | apply zbq | apply zcq | refine zdq ?_ GE776.out | refine zdq ?_ GE782.out) | exact HB.out)) hb); clear BK776; clear BK782; clear HB; have BK776 := n0_; have BK782 := n1_; have HB := n2_; clear n0_ n1_ n2_; (try clear hb); (try clear hb2); (try clear hk); (try clear hi); have hcz34_0 : w33.cell? ⟨gb782, 0, none⟩ = some (.int .u64 t780) := (zmq BK782.out 0).trans rfl; have hcz34_1 : w33.cell? ⟨gb782, 1, none⟩ = some (.int .u64 t781) := (zmq BK782.out 1).trans rfl; have hfz34_0 := znq BK782.out 0; have hfz34_1 := znq BK782.out 1; have hcz35_0 : w33.cell? ⟨gb776, 0, none⟩ = some (.int .u64 a0_0) := (zmq BK776.out 0).trans rfl; have hcz35_1 : w33.cell? ⟨gb776, 1, none⟩ = some (.int .u64 a0_1) := (zmq BK776.out 1).trans rfl; have hfz35_0 := znq BK776.out 0; have hfz35_1 := znq BK776.out 1))
     have n0_ := zA (zhq BK776.out)
     have n1_ := zA (zhq BK782.out)
     have n2_ := zA (zcq HB.out)
     clear BK776
     clear BK782
     clear HB
     have BK776 := n0_
     have BK782 := n1_
     have HB := n2_
     clear n0_ n1_ n2_
     refine start_ (n := 9) (S := fun w' => w'.cell? ⟨gb776, 0, none⟩ = some (.int .u64 a0_0) ∧ w'.cell? ⟨gb776, 1, none⟩ = some (.int .u64 a0_1)) (ds := []) #[false, false, false, false, false, false, false, false, false] (by kernel_rfl) rfl rfl ⟨(zmq BK776.out 0).trans rfl, (zmq BK776.out 1).trans rfl⟩ (fun hHeld => ?_); refine with_tabW tabardlaw2_WideRoots.tab10 tabardlaw2_WideRoots.bits10 (fun HT_ HW_ => ?_)
     generalize w33.drew = w36 at BK776 BK782 HB hHeld ⊢
     refine pure_ (i := 0) (N := some 31) (v := ?_) (a' := ?_) #[true, false, false, false, false, false, false, false, false] rfl rfl (any_of HT_.out (by kernel_rfl)) (fun _ _ _ h => h) (Or.inl ⟨by rfl, ?_⟩) ?_ ?_
     rotate_left
     ·
      intro w'
      go_simp
      with_reducible rfl
     rotate_left
     ·
      simp only [Act.put, List.setIfInBounds_toArray, List.set_cons_zero, List.set_cons_succ, i64_w, i32_w]
      rfl
     refine pure_ (i := 1) (N := some 32) (v := ?_) (a' := ?_) #[true, true, false, false, false, false, false, false, false] rfl rfl (any_of HT_.out (by kernel_rfl)) (fun _ _ _ h => h) (Or.inl ⟨by rfl, ?_⟩) ?_ ?_
     rotate_left
     ·
      intro w'
      go_simp
      with_reducible rfl
     rotate_left
     ·
      simp only [Act.put, List.setIfInBounds_toArray, List.set_cons_zero, List.set_cons_succ, i64_w, i32_w]
      rfl
     refine pure_ (i := 2) (N := some 33) (v := ?_) (a' := ?_) #[true, true, true, false, false, false, false, false, false] rfl rfl (any_of HT_.out (by kernel_rfl)) (fun _ _ _ h => h) (Or.inl ⟨by rfl, ?_⟩) ?_ ?_
     rotate_left
     ·
      intro w'
      go_simp
      with_reducible rfl
     rotate_left
     ·
      simp only [Act.put, List.setIfInBounds_toArray, List.set_cons_zero, List.set_cons_succ, i64_w, i32_w]
      rfl
     refine pure_ (i := 3) (N := some 34) (v := ?_) (a' := ?_) #[true, true, true, true, false, false, false, false, false] rfl rfl (any_of HT_.out (by kernel_rfl)) (fun _ _ _ h => h) (Or.inl ⟨by rfl, ?_⟩) ?_ ?_
     rotate_left
     ·
      intro w'
      go_simp
      with_reducible rfl
     rotate_left
     ·
      simp only [Act.put, List.setIfInBounds_toArray, List.set_cons_zero, List.set_cons_succ, i64_w, i32_w]
      rfl
     refine take_ (i := 5) (N := some 36) (v := ?_) (a' := ?_) #[true, true, true, true, false, true, false, false, false] rfl rfl (take_ofW HT_.out HW_.out (by kernel_rfl)) (fun _ _ _ h => h) (Or.inl ⟨by rfl, ?_⟩) hHeld ?_ ?_
     rotate_left
     ·
      rintro w' ⟨s0, s1⟩
      go_simp
      with_reducible rfl
     rotate_left
     ·
      simp only [Act.put, List.setIfInBounds_toArray, List.set_cons_zero, List.set_cons_succ, i64_w, i32_w]
      rfl
     refine one_ (i := 4) (N := some 35) #[true, true, true, true, true, true, false, false, false] rfl rfl (one_of HT_.out (by kernel_rfl)) (by decide) (fun K hK => ?_)
     refine goes_ Try.func46 (by kernel_rfl) rfl #[.int .u64 (IntKind.u64.wrap (t778 + 1)), .int .u64 (IntKind.u64.wrap (t778 + 1))] (by rfl) rfl rfl (by (try simp only [List.map_toArray, List.map_cons, List.map_nil]); first | done | rfl | (simp only [List.length_drop, List.length_take]; rfl)) ?_
     with_reducible refine (wide_Mul.calls (IntKind.u64.wrap (t778 + 1)) (IntKind.u64.wrap (t778 + 1)) t784 t785 _ A22.out).mono ?_
     rintro e w37 ⟨rfl, hb⟩
     refine ⟨_, rfl, ?_⟩
     have n0_ := zA (zlq (g := gb776) (o := .cells #[.int .u64 a0_0, .int .u64 a0_1] 24 (0, 0)) (by (with_reducible repeat (first | refine zgq ?_ _ | refine zhq ?_ | refine ziq ?_ _)); exact BK776.out) hb)
     have n1_ := zA (zlq (g := gb782) (o := .cells #[.int .u64 t780, .int .u64 t781] 24 (0, 0)) (by (with_reducible repeat (first | refine zgq ?_ _ | refine zhq ?_ | refine ziq ?_ _)); exact BK782.out) hb)
     have n2_ := zA (zeq (by repeat (first | (with_reducible first | exact HB.out | apply zaq | apply zbq | apply zcq | refine zdq ?_ GE776.out | refine zdq ?_ GE782.out) | exact HB.out)) hb)
     clear BK776
     clear BK782
     clear HB
     have BK776 := n0_
     have BK782 := n1_
     have HB := n2_
     clear n0_ n1_ n2_
     (try clear hb)
     (try clear hb2)
     (try clear hk)
     (try clear hi)
     refine hK.out _ _ ⟨(zmq BK776.out 0).trans rfl, (zmq BK776.out 1).trans rfl⟩ (fun hHeld => ?_)
     clear hK K
     refine norm_ (a' := ?_) ?_ ?_
     rotate_left
     ·
      show Act.put _ (some 35) _ = _
      simp only [Act.put, List.setIfInBounds_toArray, List.set_cons_zero, List.set_cons_succ, i64_w, i32_w]
      rfl
     refine one_ (i := 6) (N := some 37) #[true, true, true, true, true, true, true, false, false] rfl rfl (one_of HT_.out (by kernel_rfl)) (by decide) (fun K hK => ?_)
     refine goes_ Try.func27 (by kernel_rfl) rfl #[.agg #[.int .u64 t784, .int .u64 t785], .agg #[.int .u64 a0_0, .int .u64 a0_1]] (by rfl) rfl rfl (by (try simp only [List.map_toArray, List.map_cons, List.map_nil]); first | done | rfl | (simp only [List.length_drop, List.length_take]; rfl)) ?_
     with_reducible refine (wide_Cmp.calls t784 t785 a0_0 a0_1 t786 _ A23.out).mono ?_
     rintro e w38 ⟨rfl, hb⟩
     refine ⟨_, rfl, ?_⟩
     have n0_ := zA (zlq (g := gb776) (o := .cells #[.int .u64 a0_0, .int .u64 a0_1] 24 (0, 0)) (by (with_reducible repeat (first | refine zgq ?_ _ | refine zhq ?_ | refine ziq ?_ _)); exact BK776.out) hb)
     have n1_ := zA (zlq (g := gb782) (o := .cells #[.int .u64 t780, .int .u64 t781] 24 (0, 0)) (by (with_reducible repeat (first | refine zgq ?_ _ | refine zhq ?_ | refine ziq ?_ _)); exact BK782.out) hb)
     have n2_ := zA (zeq (by repeat (first | (with_reducible first | exact HB.out | apply zaq | apply zbq | apply zcq | refine zdq ?_ GE776.out | refine zdq ?_ GE782.out) | exact HB.out)) hb)
     clear BK776
     clear BK782
     clear HB
     have BK776 := n0_
     have BK782 := n1_
     have HB := n2_
     clear n0_ n1_ n2_
     (try clear hb)
     (try clear hb2)
     (try clear hk)
     (try clear hi)
     refine hK.out _ _ ⟨(zmq BK776.out 0).trans rfl, (zmq BK776.out 1).trans rfl⟩ (fun hHeld => ?_)
     clear hK K
     refine norm_ (a' := ?_) ?_ ?_
     rotate_left
     ·
      show Act.put _ (some 37) _ = _
      simp only [Act.put, List.setIfInBounds_toArray, List.set_cons_zero, List.set_cons_succ, i64_w, i32_w]
      rfl
     refine pure_ (i := 7) (N := some 38) (v := ?_) (a' := ?_) #[true, true, true, true, true, true, true, true, false] rfl rfl (any_of HT_.out (by kernel_rfl)) (fun _ _ _ h => h) (Or.inl ⟨by rfl, ?_⟩) ?_ ?_
     rotate_left
     ·
      intro w'
      go_simp
      with_reducible rfl
     rotate_left
     ·
      simp only [Act.put, List.setIfInBounds_toArray, List.set_cons_zero, List.set_cons_succ, i64_w, i32_w]
      rfl
     refine pure_ (i := 8) (N := some 2) (v := ?_) (a' := ?_) #[true, true, true, true, true, true, true, true, true] rfl rfl (any_of HT_.out (by kernel_rfl)) (fun _ _ _ h => h) (Or.inl ⟨by rfl, ?_⟩) ?_ ?_
     rotate_left
     ·
      intro w'
      go_simp
      with_reducible rfl
     rotate_left
     ·
      simp only [Act.put, List.setIfInBounds_toArray, List.set_cons_zero, List.set_cons_succ, i64_w, i32_w]
      rfl
     refine done_ (done_of HT_.out (by kernel_rfl)) ?_
     try go_wp2
     go_ret
     exact ⟨by first | rfl | (simp [errW_none, errW_some] <;> rfl) | (simp [*, errW_none, errW_some] <;> rfl), by repeat (first | (with_reducible first | exact HB.out | apply zaq | apply zbq | apply zcq | refine zdq ?_ GE776.out | refine zdq ?_ GE782.out) | exact HB.out)⟩
 ·
  replace c3 := Bool.eq_false_iff.mpr c3
  subst c3
  have H1 : (none) = some r := by rw [if_neg (show ¬ (false = true) by decide)] at H; exact H
  clear H
  have H := H1
  clear H1
  exact absurd H (by simp)

end Go.Proofs.Ytbejjlecpcphoaa.P
