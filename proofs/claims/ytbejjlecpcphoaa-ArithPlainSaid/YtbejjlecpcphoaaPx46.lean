-- Written by a program of this session's (a turned print), not by hand.
import Derived.Test.YtbejjlecpcphoaaPx0
import Derived.Test.YtbejjlecpcphoaaPx1
import Derived.Test.YtbejjlecpcphoaaPx6
import Derived.Test.YtbejjlecpcphoaaPx8
import Derived.Test.YtbejjlecpcphoaaPx9
import Derived.Test.YtbejjlecpcphoaaPx28
namespace Go.Proofs.Ytbejjlecpcphoaa.P
open Go.RowKit Go.Proofs.YtbejjlecpcphoaaW.PrintWords Go.Proofs.YtbejjlecpcphoaaW.PrintLast Go.Proofs.YtbejjlecpcphoaaW.PrintMore
attribute [local go_sem] max2_int min2_int max_two min_two max_three min_three max_four min_four   -- for this text's walks alone
set_option linter.unusedVariables false
set_option linter.unusedSimpArgs false

attribute [local go_sem high] eqA24
/-! ### arith_sum: function 93 -/
mutual
def arith_sum.j0 : Nat → Bool → Int → Int → Bool → Int → Int → Option (Int)
 | 0, _, _, _, _, _, _ => none
 | k + 1, x5, x6, x7, x8, x9, x10 => (wide_Shl.f 0 x6 (mn (wrap64 (x7 - x10)) 64)).bind fun bt793 => ((wide_Shr.f k 0 x9 (wrap64 ((wrap64 (x7 - (mn (wrap64 (x7 - x10)) 64))) - x10))).bind fun bt796 => (if (x5 == x8) = true then ((wide_Add.f bt793.1 bt793.2 bt796.1 bt796.2.1).bind fun bt800 => ((float_Join.f k x5 bt800.1 bt800.2.1 (wrap64 (x7 - (mn (wrap64 (x7 - x10)) 64))) bt796.2.2).bind fun t804 => (some t804))) else (if bt796.2.2 = true then ((wide_Add.f bt796.1 bt796.2.1 0 1).bind fun bt805 => (arith_sum.j1 k x5 x8 (wrap64 (x7 - (mn (wrap64 (x7 - x10)) 64))) bt796.2.2 bt793.1 bt793.2 bt805.1 bt805.2.1)) else (arith_sum.j1 k x5 x8 (wrap64 (x7 - (mn (wrap64 (x7 - x10)) 64))) bt796.2.2 bt793.1 bt793.2 bt796.1 bt796.2.1))))
def arith_sum.j1 : Nat → Bool → Bool → Int → Bool → Int → Int → Int → Int → Option (Int)
 | 0, _, _, _, _, _, _, _, _ => none
 | k + 1, x5, x8, x13, x15, x796000, x796001, x800000, x800001 => (wide_Sub.f x796000 x796001 x800000 x800001).bind fun bt808 => (if bt808.2.2 = true then ((wide_Sub.f x800000 x800001 x796000 x796001).bind fun bt812 => ((float_Join.f k x8 bt812.1 bt812.2.1 x13 false).bind fun t815 => (some t815))) else (if (bt808.1 == 0 && (bt808.2.1 == 0)) = true then (if x15 = true then ((float_Join.f k x5 bt808.1 bt808.2.1 x13 x15).bind fun t816 => (some t816)) else (some 0)) else ((float_Join.f k x5 bt808.1 bt808.2.1 x13 x15).bind fun t817 => (some t817))))
end
def arith_sum.f (k : Nat) (a0 : Int) (a1 : Int) : Option (Int) := (float_Split.f k a0).bind fun bt787 => ((float_Split.f k a1).bind fun bt790 => (if bt787.2.2 < bt790.2.2 then (arith_sum.j0 k bt790.1 bt790.2.1 bt790.2.2 bt787.1 bt787.2.1 bt787.2.2) else (arith_sum.j0 k bt787.1 bt787.2.1 bt787.2.2 bt790.1 bt790.2.1 bt790.2.2)))
theorem arith_sum.mono_l : ∀ k, (∀ y0 y1 y2 y3 y4 y5, LeO (arith_sum.j0 k y0 y1 y2 y3 y4 y5) (arith_sum.j0 (k + 1) y0 y1 y2 y3 y4 y5)) ∧ (∀ y0 y1 y2 y3 y4 y5 y6 y7, LeO (arith_sum.j1 k y0 y1 y2 y3 y4 y5 y6 y7) (arith_sum.j1 (k + 1) y0 y1 y2 y3 y4 y5 y6 y7))
 | 0 => ⟨fun _ _ _ _ _ _ r h => by simp [arith_sum.j0] at h, fun _ _ _ _ _ _ _ _ r h => by simp [arith_sum.j1] at h⟩
 | k + 1 => by
  obtain ⟨ih0, ih1⟩ := arith_sum.mono_l k
  refine ⟨?_, ?_⟩
  ·
   intro y0 y1 y2 y3 y4 y5
   unfold arith_sum.j0
   repeat' first
   | (with_reducible exact ih0 _ _ _ _ _ _)
   | (with_reducible exact ih1 _ _ _ _ _ _ _ _)
   | (with_reducible exact float_Join.mono _ _ _ _ _ _)
   | (with_reducible exact float_Split.mono _ _)
   | (with_reducible exact wide_Shr.mono _ _ _ _)
   | (with_reducible exact LeO.refl _)
   | (with_reducible exact LeO.none _)
   | (with_reducible refine LeO.ite ?_ ?_)
   | (with_reducible refine LeO.bind ?_ (fun _ => ?_))
   | exact ih0 _ _ _ _ _ _
   | exact ih1 _ _ _ _ _ _ _ _
   | exact float_Join.mono _ _ _ _ _ _
   | exact float_Split.mono _ _
   | exact wide_Shr.mono _ _ _ _
   | exact LeO.none _
   | refine LeO.ite ?_ ?_
   | refine LeO.bind ?_ (fun _ => ?_)
  ·
   intro y0 y1 y2 y3 y4 y5 y6 y7
   unfold arith_sum.j1
   repeat' first
   | (with_reducible exact ih0 _ _ _ _ _ _)
   | (with_reducible exact ih1 _ _ _ _ _ _ _ _)
   | (with_reducible exact float_Join.mono _ _ _ _ _ _)
   | (with_reducible exact float_Split.mono _ _)
   | (with_reducible exact wide_Shr.mono _ _ _ _)
   | (with_reducible exact LeO.refl _)
   | (with_reducible exact LeO.none _)
   | (with_reducible refine LeO.ite ?_ ?_)
   | (with_reducible refine LeO.bind ?_ (fun _ => ?_))
   | exact ih0 _ _ _ _ _ _
   | exact ih1 _ _ _ _ _ _ _ _
   | exact float_Join.mono _ _ _ _ _ _
   | exact float_Split.mono _ _
   | exact wide_Shr.mono _ _ _ _
   | exact LeO.none _
   | refine LeO.ite ?_ ?_
   | refine LeO.bind ?_ (fun _ => ?_)
theorem arith_sum.mono : ∀ a0 a1 k, LeO (arith_sum.f k a0 a1) (arith_sum.f (k + 1) a0 a1) := by
 intro a0 a1 k
 obtain ⟨ih0, ih1⟩ := arith_sum.mono_l k
 unfold arith_sum.f
 repeat' first
   | (with_reducible exact ih0 _ _ _ _ _ _)
   | (with_reducible exact ih1 _ _ _ _ _ _ _ _)
   | (with_reducible exact float_Join.mono _ _ _ _ _ _)
   | (with_reducible exact float_Split.mono _ _)
   | (with_reducible exact wide_Shr.mono _ _ _ _)
   | (with_reducible exact LeO.refl _)
   | (with_reducible exact LeO.none _)
   | (with_reducible refine LeO.ite ?_ ?_)
   | (with_reducible refine LeO.bind ?_ (fun _ => ?_))
   | exact ih0 _ _ _ _ _ _
   | exact ih1 _ _ _ _ _ _ _ _
   | exact float_Join.mono _ _ _ _ _ _
   | exact float_Split.mono _ _
   | exact wide_Shr.mono _ _ _ _
   | exact LeO.none _
   | refine LeO.ite ?_ ?_
   | refine LeO.bind ?_ (fun _ => ?_)
set_option maxHeartbeats 8000000 in
set_option maxRecDepth 100000 in
theorem arith_sum.calls (k : Nat) (a0 : Int) (a1 : Int) (r : Int) (w : World) (h : arith_sum.f k a0 a1 = some r) :
  Calls Try.prog 93 #[.int .u64 a0, .int .u64 a1] w fun e w' => e = .returned (.int .u64 r) ∧ Below w.heap.size w w' := by
 have hu24 := Try.underlying24
 have HB := zA (Below.refl w.heap.size w)
 have H : ((float_Split.f k a0).bind fun bt787 => ((float_Split.f k a1).bind fun bt790 => (if bt787.2.2 < bt790.2.2 then (arith_sum.j0 k bt790.1 bt790.2.1 bt790.2.2 bt787.1 bt787.2.1 bt787.2.2) else (arith_sum.j0 k bt787.1 bt787.2.1 bt787.2.2 bt790.1 bt790.2.1 bt790.2.2)))) = some r := h
 clear h
 replace H := Option.bind_eq_some_iff.mp H
 obtain ⟨⟨t787, t788, t789⟩, A30, H⟩ := H
 replace H : ((float_Split.f k a1).bind fun bt790 => (if t789 < bt790.2.2 then (arith_sum.j0 k bt790.1 bt790.2.1 bt790.2.2 t787 t788 t789) else (arith_sum.j0 k t787 t788 t789 bt790.1 bt790.2.1 bt790.2.2))) = some r := H
 have A3 := zA A30
 clear A30
 replace H := Option.bind_eq_some_iff.mp H
 obtain ⟨⟨t790, t791, t792⟩, A40, H⟩ := H
 replace H : (if t789 < t792 then (arith_sum.j0 k t790 t791 t792 t787 t788 t789) else (arith_sum.j0 k t787 t788 t789 t790 t791 t792)) = some r := H
 have A4 := zA A40
 clear A40
 have HC5 := zA H
 clear H
 go_enter Try.func93, Try.ntmps93
 go_upto_if 34 with (first | ((with_reducible refine zoq (f := 26) rfl ?_); refine goesL_ (some 22) rfl rfl Try.func26 (by kernel_rfl) rfl #[.int .u64 a0] rfl (by (try simp only [List.map_toArray, List.map_cons, List.map_nil]); first | done | rfl | (simp only [List.length_drop, List.length_take]; rfl)) ?_; (with_reducible refine (float_Split.calls k a0 t787 t788 t789 _ A3.out).mono ?_); rintro e w' ⟨rfl, ⟨nd, rfl⟩⟩; refine ⟨_, rfl, ?_⟩) | ((with_reducible refine zoq (f := 26) rfl ?_); refine goesL_ (some 28) rfl rfl Try.func26 (by kernel_rfl) rfl #[.int .u64 a1] rfl (by (try simp only [List.map_toArray, List.map_cons, List.map_nil]); first | done | rfl | (simp only [List.length_drop, List.length_take]; rfl)) ?_; (with_reducible refine (float_Split.calls k a1 t790 t791 t792 _ A4.out).mono ?_); rintro e w' ⟨rfl, ⟨nd, rfl⟩⟩; refine ⟨_, rfl, ?_⟩))
 (try simp only [Act.put, List.setIfInBounds_toArray, List.set_cons_zero, List.set_cons_succ])
 go_cut [5, 6, 7, 8, 9, 10] (fun v5 v6 v7 v8 v9 v10 wc => ∃ (kq : Nat) (x5_4 : Bool) (x6_4 : Int) (x7_4 : Int) (x8_4 : Bool) (x9_4 : Int) (x10_4 : Int), v5 = .bool x5_4 ∧ v6 = .int .u64 x6_4 ∧ v7 = .int .i64 x7_4 ∧ v8 = .bool x8_4 ∧ v9 = .int .u64 x9_4 ∧ v10 = .int .i64 x10_4 ∧ Aside0 (arith_sum.j0 kq x5_4 x6_4 x7_4 x8_4 x9_4 x10_4 = some r) ∧ Aside0 (kq ≤ k) ∧ Aside0 (Below w.heap.size w wc))
 case first =>
  have H := HC5.out
  clear HC5
  by_cases c6 : t789 < t792
  ·
   rw [if_pos c6] at H
   have c6b0 : decide (t789 < t792) = true := decide_eq_true c6
   clear c6
   (first | rw [c6b0] | (simp only [i64_w, i32_w]; rw [c6b0]) | skip)
   have H' := zA H
   clear H
   go_wp2
   go_meet
   case rel => exact ⟨_, (t790), (t791), (t792), (t787), (t788), (t789), (by first | rfl | (simp; done) | (simp [*]; done)), (by first | rfl | (simp; done) | (simp [*]; done)), (by first | rfl | (simp; done) | (simp [*]; done)), (by first | rfl | (simp; done) | (simp [*]; done)), (by first | rfl | (simp; done) | (simp [*]; done)), (by first | rfl | (simp; done) | (simp [*]; done)), H', ⟨by first | omega | exact Nat.le_refl _⟩, ⟨by repeat (first | (with_reducible first | exact HB.out | apply zaq | apply zbq | apply zcq) | exact HB.out)⟩⟩
  ·
   rw [if_neg c6] at H
   have c6b0 : decide (t789 < t792) = false := decide_eq_false c6
   clear c6
   (first | rw [c6b0] | (simp only [i64_w, i32_w]; rw [c6b0]) | skip)
   have H' := zA H
   clear H
   go_wp2
   go_meet
   case rel => exact ⟨_, (t787), (t788), (t789), (t790), (t791), (t792), (by first | rfl | (simp; done) | (simp [*]; done)), (by first | rfl | (simp; done) | (simp [*]; done)), (by first | rfl | (simp; done) | (simp [*]; done)), (by first | rfl | (simp; done) | (simp [*]; done)), (by first | rfl | (simp; done) | (simp [*]; done)), (by first | rfl | (simp; done) | (simp [*]; done)), H', ⟨by first | omega | exact Nat.le_refl _⟩, ⟨by repeat (first | (with_reducible first | exact HB.out | apply zaq | apply zbq | apply zcq) | exact HB.out)⟩⟩
 case rest =>
  clear HC5
  try clear c2
  try clear p2
  try clear c6
  try clear c6b0
  obtain ⟨kq, x5_4, x6_4, x7_4, x8_4, x9_4, x10_4, rfl, rfl, rfl, rfl, rfl, rfl, HA, HJ4, HB⟩ := hcut
  cases kq with
  | zero => exact absurd HA.out (by simp [arith_sum.j0])
  | succ kj4 =>
   have H := HA.out
   clear HA
   simp only [arith_sum.j0] at H
   obtain ⟨ji7, hji7⟩ : ∃ j_ : Int, (mn (wrap64 (x7_4 - x10_4)) 64) = j_ := ⟨_, rfl⟩
   replace H : ((wide_Shl.f 0 x6_4 (ji7)).bind fun bt793 => ((wide_Shr.f kj4 0 x9_4 (wrap64 ((wrap64 (x7_4 - (ji7))) - x10_4))).bind fun bt796 => (if (x5_4 == x8_4) = true then ((wide_Add.f bt793.1 bt793.2 bt796.1 bt796.2.1).bind fun bt800 => ((float_Join.f kj4 x5_4 bt800.1 bt800.2.1 (wrap64 (x7_4 - (ji7))) bt796.2.2).bind fun t804 => (some t804))) else (if bt796.2.2 = true then ((wide_Add.f bt796.1 bt796.2.1 0 1).bind fun bt805 => (arith_sum.j1 kj4 x5_4 x8_4 (wrap64 (x7_4 - (ji7))) bt796.2.2 bt793.1 bt793.2 bt805.1 bt805.2.1)) else (arith_sum.j1 kj4 x5_4 x8_4 (wrap64 (x7_4 - (ji7))) bt796.2.2 bt793.1 bt793.2 bt796.1 bt796.2.1))))) = some r := by first | (rw [hji7] at H; exact H) | (simp only [hji7] at H ⊢; exact H)
   have hji7_ : (if 64 < (wrap64 (x7_4 - x10_4)) then 64 else (wrap64 (x7_4 - x10_4))) = ji7 := hji7
   replace H := Option.bind_eq_some_iff.mp H
   obtain ⟨⟨t793, t794⟩, A80, H⟩ := H
   replace H : ((wide_Shr.f kj4 0 x9_4 (wrap64 ((wrap64 (x7_4 - (ji7))) - x10_4))).bind fun bt796 => (if (x5_4 == x8_4) = true then ((wide_Add.f t793 t794 bt796.1 bt796.2.1).bind fun bt800 => ((float_Join.f kj4 x5_4 bt800.1 bt800.2.1 (wrap64 (x7_4 - (ji7))) bt796.2.2).bind fun t804 => (some t804))) else (if bt796.2.2 = true then ((wide_Add.f bt796.1 bt796.2.1 0 1).bind fun bt805 => (arith_sum.j1 kj4 x5_4 x8_4 (wrap64 (x7_4 - (ji7))) bt796.2.2 t793 t794 bt805.1 bt805.2.1)) else (arith_sum.j1 kj4 x5_4 x8_4 (wrap64 (x7_4 - (ji7))) bt796.2.2 t793 t794 bt796.1 bt796.2.1)))) = some r := H
   have A8 := zA A80
   clear A80
   replace H := Option.bind_eq_some_iff.mp H
   obtain ⟨⟨t796, t797, t798⟩, A90, H⟩ := H
   replace H : (if (x5_4 == x8_4) = true then ((wide_Add.f t793 t794 t796 t797).bind fun bt800 => ((float_Join.f kj4 x5_4 bt800.1 bt800.2.1 (wrap64 (x7_4 - (ji7))) t798).bind fun t804 => (some t804))) else (if t798 = true then ((wide_Add.f t796 t797 0 1).bind fun bt805 => (arith_sum.j1 kj4 x5_4 x8_4 (wrap64 (x7_4 - (ji7))) t798 t793 t794 bt805.1 bt805.2.1)) else (arith_sum.j1 kj4 x5_4 x8_4 (wrap64 (x7_4 - (ji7))) t798 t793 t794 t796 t797))) = some r := H
   have A9 := zA A90
   clear A90
   by_cases c10 : (x5_4 == x8_4) = true
   ·
    rw [if_pos c10] at H
    have c10b0 : (x5_4 == x8_4) = true := c10
    (try (have c10b1 : decide (x5_4 = x8_4) = true := by simpa using c10))
    (try (have c10b2 : (x5_4 == x8_4) = true := by simpa using c10))
    clear c10
    replace H := Option.bind_eq_some_iff.mp H
    obtain ⟨⟨t800, t801, t802⟩, A110, H⟩ := H
    replace H : ((float_Join.f kj4 x5_4 t800 t801 (wrap64 (x7_4 - (ji7))) t798).bind fun t804 => (some t804)) = some r := H
    have A11 := zA A110
    clear A110
    replace H := Option.bind_eq_some_iff.mp H
    obtain ⟨t804, A120, H⟩ := H
    replace H : (some t804) = some r := H
    have A12 := zA A120
    clear A120
    obtain rfl := Option.some.inj H
    go_wp2_with (first | ((with_reducible refine zoq (f := 53) rfl ?_); refine goesL_ (some 48) rfl rfl Try.func53 (by kernel_rfl) rfl #[.agg #[.int .u64 0, .int .u64 x6_4], .int .i64 ji7] rfl (by (try simp only [List.map_toArray, List.map_cons, List.map_nil]); first | done | (simp only [hji7]; rfl) | rfl | (simp only [List.length_drop, List.length_take]; rfl)) ?_; (with_reducible refine (wide_Shl.calls 0 x6_4 ji7 t793 t794 _ A8.out).mono ?_); rintro e w13 ⟨rfl, hb⟩; refine ⟨_, rfl, ?_⟩; have n0_ := zA (zeq (by repeat (first | (with_reducible first | exact HB.out | apply zaq | apply zbq | apply zcq) | exact HB.out)) hb); clear HB; have HB := n0_; clear n0_; (try clear hb); (try clear hb2); (try clear hk); (try clear hi)) | ((with_reducible refine zpq (N := 12) rfl ?_); refine zqq ?hg (N := 12) ?hd (cs := #[.int .u64 0, .int .u64 0]) (t := 24) ?hr ?_; (case hd => rfl); (case hg => rfl); (case hr => first | (go_simp; done) | (go_simp; rfl)); intro gb795 hg w14 hbox hb; have n0_ := zA (zeq (by repeat (first | (with_reducible first | exact HB.out | apply zaq | apply zbq | apply zcq) | exact HB.out)) hb); have n1_ := zA (hbox); have n2_ := zA ((by rw [hg]; exact (zfq (by repeat (first | (with_reducible first | exact HB.out | apply zaq | apply zbq | apply zcq) | exact HB.out))) : w.heap.size ≤ gb795)); have n3_ := zA ((by rw [hg]; exact (zfq (by repeat (first | (with_reducible first | exact HB.out | apply zaq | apply zbq | apply zcq) | exact HB.out))) : w.heap.size ≤ gb795)); clear HB; have HB := n0_; have BK795 := n1_; have GW795 := n2_; have GE795 := n3_; clear n0_ n1_ n2_ n3_; clear hb hbox hg; have hcz15_0 : w14.cell? ⟨gb795, 0, none⟩ = some (.int .u64 0) := (zmq BK795.out 0).trans rfl; have hcz15_1 : w14.cell? ⟨gb795, 1, none⟩ = some (.int .u64 0) := (zmq BK795.out 1).trans rfl; have hfz15_0 := znq BK795.out 0; have hfz15_1 := znq BK795.out 1) | ((with_reducible refine zoq (f := 51) rfl ?_); refine goesL_ (some 58) rfl rfl Try.func51 (by kernel_rfl) rfl #[.agg #[.int .u64 0, .int .u64 x9_4], .int .i64 (wrap64 ((wrap64 (x7_4 - (ji7))) - x10_4))] rfl (by (try simp only [List.map_toArray, List.map_cons, List.map_nil]); first | done | (simp only [hji7]; rfl) | rfl | (simp only [List.length_drop, List.length_take]; rfl)) ?_; (with_reducible refine (wide_Shr.calls kj4 0 x9_4 (wrap64 ((wrap64 (x7_4 - (ji7))) - x10_4)) t796 t797 t798 _ A9.out).mono ?_); rintro e w16 ⟨rfl, hb⟩; refine ⟨_, rfl, ?_⟩; have n0_ := zA (zlq (g := gb795) (o := .cells #[.int .u64 t793, .int .u64 t794] 24 (0, 0)) (by (with_reducible repeat (first | refine zgq ?_ _ | refine zhq ?_ | refine ziq ?_ _)); refine zkq (cs := #[.int .u64 t793, .int .u64 0]) ?_ 1 _ rfl; (with_reducible repeat (first | refine zgq ?_ _ | refine zhq ?_ | refine ziq ?_ _)); refine zkq (cs := #[.int .u64 0, .int .u64 0]) ?_ 0 _ rfl; (with_reducible repeat (first | refine zgq ?_ _ | refine zhq ?_ | refine ziq ?_ _)); exact BK795.out) hb); have n1_ := zA (zeq (by repeat (first | (with_reducible first | exact HB.out | apply zaq | apply zbq | apply zcq | refine zdq ?_ GE795.out) | exact HB.out)) hb); clear BK795; clear HB; have BK795 := n0_; have HB := n1_; clear n0_ n1_; (try clear hb); (try clear hb2); (try clear hk); (try clear hi)) | ((with_reducible refine zpq (N := 14) rfl ?_); refine zqq ?hg (N := 14) ?hd (cs := #[.int .u64 0, .int .u64 0]) (t := 24) ?hr ?_; (case hd => rfl); (case hg => rfl); (case hr => first | (go_simp; done) | (go_simp; rfl)); intro gb799 hg w17 hbox hb; have n0_ := zA (zlq (g := gb795) (o := .cells #[.int .u64 t793, .int .u64 t794] 24 (0, 0)) (by (with_reducible repeat (first | refine zgq ?_ _ | refine zhq ?_ | refine ziq ?_ _)); exact BK795.out) hb); have n1_ := zA (zeq (by repeat (first | (with_reducible first | exact HB.out | apply zaq | apply zbq | apply zcq | refine zdq ?_ GE795.out) | exact HB.out)) hb); have n2_ := zA (hbox); have n3_ := zA ((by rw [hg]; exact (zfq (by repeat (first | (with_reducible first | exact HB.out | apply zaq | apply zbq | apply zcq | refine zdq ?_ GE795.out) | exact HB.out))) : w.heap.size ≤ gb799)); have n4_ := zA ((by rw [hg]; exact (zfq (by repeat (first | (with_reducible first | exact HB.out | apply zaq | apply zbq | apply zcq | refine zdq ?_ GE795.out) | exact HB.out))) : w.heap.size ≤ gb799)); have n5_ := zA ((by rw [hg]; exact Nat.ne_of_lt (blk_lt (g := gb795) (o := .cells #[.int .u64 t793, .int .u64 t794] 24 (0, 0)) (by (with_reducible repeat (first | refine zgq ?_ _ | refine zhq ?_ | refine ziq ?_ _)); exact BK795.out)) : gb795 ≠ gb799)); have n6_ := zA ((by rw [hg]; exact Nat.ne_of_gt (blk_lt (g := gb795) (o := .cells #[.int .u64 t793, .int .u64 t794] 24 (0, 0)) (by (with_reducible repeat (first | refine zgq ?_ _ | refine zhq ?_ | refine ziq ?_ _)); exact BK795.out)) : gb799 ≠ gb795)); clear BK795; clear HB; have BK795 := n0_; have HB := n1_; have BK799 := n2_; have GW799 := n3_; have GE799 := n4_; have NB795_799 := n5_; have NB799_795 := n6_; clear n0_ n1_ n2_ n3_ n4_ n5_ n6_; clear hb hbox hg; have hnb18 := NB799_795.out; have hnc18 := NB795_799.out; have hcz19_0 : w17.cell? ⟨gb799, 0, none⟩ = some (.int .u64 0) := (zmq BK799.out 0).trans rfl; have hcz19_1 : w17.cell? ⟨gb799, 1, none⟩ = some (.int .u64 0) := (zmq BK799.out 1).trans rfl; have hfz19_0 := znq BK799.out 0; have hfz19_1 := znq BK799.out 1; have hcz20_0 : w17.cell? ⟨gb795, 0, none⟩ = some (.int .u64 t793) := (zmq BK795.out 0).trans rfl; have hcz20_1 : w17.cell? ⟨gb795, 1, none⟩ = some (.int .u64 t794) := (zmq BK795.out 1).trans rfl; have hfz20_0 := znq BK795.out 0; have hfz20_1 := znq BK795.out 1) | ((with_reducible refine zoq (f := 41) rfl ?_); refine goesL_ (some 67) rfl rfl Try.func41 (by kernel_rfl) rfl #[.agg #[.int .u64 t793, .int .u64 t794], .agg #[.int .u64 t796, .int .u64 t797]] rfl (by (try simp only [List.map_toArray, List.map_cons, List.map_nil]); first | done | rfl | (simp only [List.length_drop, List.length_take]; rfl)) ?_; (with_reducible refine (wide_Add.calls t793 t794 t796 t797 t800 t801 t802 _ A11.out).mono ?_); rintro e w21 ⟨rfl, hb⟩; refine ⟨_, rfl, ?_⟩; have n0_ := zA (zlq (g := gb795) (o := .cells #[.int .u64 t793, .int .u64 t794] 24 (0, 0)) (by (with_reducible repeat (first | refine zgq ?_ _ | refine zhq ?_ | refine ziq ?_ _)); refine zjq ?_ NB795_799.out _; (with_reducible repeat (first | refine zgq ?_ _ | refine zhq ?_ | refine ziq ?_ _)); refine zjq ?_ NB795_799.out _; (with_reducible repeat (first | refine zgq ?_ _ | refine zhq ?_ | refine ziq ?_ _)); exact BK795.out) hb); have n1_ := zA (zlq (g := gb799) (o := .cells #[.int .u64 t796, .int .u64 t797] 24 (0, 0)) (by (with_reducible repeat (first | refine zgq ?_ _ | refine zhq ?_ | refine ziq ?_ _)); refine zkq (cs := #[.int .u64 t796, .int .u64 0]) ?_ 1 _ rfl; (with_reducible repeat (first | refine zgq ?_ _ | refine zhq ?_ | refine ziq ?_ _)); refine zkq (cs := #[.int .u64 0, .int .u64 0]) ?_ 0 _ rfl; (with_reducible repeat (first | refine zgq ?_ _ | refine zhq ?_ | refine ziq ?_ _)); exact BK799.out) hb); have n2_ := zA (zeq (by repeat (first | (with_reducible first | exact HB.out | apply zaq | apply zbq | apply zcq | refine zdq ?_ GE795.out | refine zdq ?_ GE799.out) | exact HB.out)) hb); clear BK795; clear BK799; clear HB; have BK795 := n0_; have BK799 := n1_; have HB := n2_; clear n0_ n1_ n2_; (try clear hb); (try clear hb2); (try clear hk); (try clear hi)) | ((with_reducible refine zpq (N := 16) rfl ?_); refine zqq ?hg (N := 16) ?hd (cs := #[.int .u64 0, .int .u64 0]) (t := 24) ?hr ?_; (case hd => rfl); (case hg => rfl); (case hr => first | (go_simp; done) | (go_simp; rfl)); intro gb803 hg w22 hbox hb; have n0_ := zA (zlq (g := gb795) (o := .cells #[.int .u64 t793, .int .u64 t794] 24 (0, 0)) (by (with_reducible repeat (first | refine zgq ?_ _ | refine zhq ?_ | refine ziq ?_ _)); exact BK795.out) hb); have n1_ := zA (zlq (g := gb799) (o := .cells #[.int .u64 t796, .int .u64 t797] 24 (0, 0)) (by (with_reducible repeat (first | refine zgq ?_ _ | refine zhq ?_ | refine ziq ?_ _)); exact BK799.out) hb); have n2_ := zA (zeq (by repeat (first | (with_reducible first | exact HB.out | apply zaq | apply zbq | apply zcq | refine zdq ?_ GE795.out | refine zdq ?_ GE799.out) | exact HB.out)) hb); have n3_ := zA (hbox); have n4_ := zA ((by rw [hg]; exact (zfq (by repeat (first | (with_reducible first | exact HB.out | apply zaq | apply zbq | apply zcq | refine zdq ?_ GE795.out | refine zdq ?_ GE799.out) | exact HB.out))) : w.heap.size ≤ gb803)); have n5_ := zA ((by rw [hg]; exact (zfq (by repeat (first | (with_reducible first | exact HB.out | apply zaq | apply zbq | apply zcq | refine zdq ?_ GE795.out | refine zdq ?_ GE799.out) | exact HB.out))) : w.heap.size ≤ gb803)); have n6_ := zA ((by rw [hg]; exact Nat.ne_of_lt (blk_lt (g := gb795) (o := .cells #[.int .u64 t793, .int .u64 t794] 24 (0, 0)) (by (with_reducible repeat (first | refine zgq ?_ _ | refine zhq ?_ | refine ziq ?_ _)); exact BK795.out)) : gb795 ≠ gb803)); have n7_ := zA ((by rw [hg]; exact Nat.ne_of_gt (blk_lt (g := gb795) (o := .cells #[.int .u64 t793, .int .u64 t794] 24 (0, 0)) (by (with_reducible repeat (first | refine zgq ?_ _ | refine zhq ?_ | refine ziq ?_ _)); exact BK795.out)) : gb803 ≠ gb795)); have n8_ := zA ((by rw [hg]; exact Nat.ne_of_lt (blk_lt (g := gb799) (o := .cells #[.int .u64 t796, .int .u64 t797] 24 (0, 0)) (by (with_reducible repeat (first | refine zgq ?_ _ | refine zhq ?_ | refine ziq ?_ _)); exact BK799.out)) : gb799 ≠ gb803)); have n9_ := zA ((by rw [hg]; exact Nat.ne_of_gt (blk_lt (g := gb799) (o := .cells #[.int .u64 t796, .int .u64 t797] 24 (0, 0)) (by (with_reducible repeat (first | refine zgq ?_ _ | refine zhq ?_ | refine ziq ?_ _)); exact BK799.out)) : gb803 ≠ gb799)); clear BK795; clear BK799; clear HB; have BK795 := n0_; have BK799 := n1_; have HB := n2_; have BK803 := n3_; have GW803 := n4_; have GE803 := n5_; have NB795_803 := n6_; have NB803_795 := n7_; have NB799_803 := n8_; have NB803_799 := n9_; clear n0_ n1_ n2_ n3_ n4_ n5_ n6_ n7_ n8_ n9_; clear hb hbox hg; have hnb23 := NB803_795.out; have hnc23 := NB795_803.out; have hnb24 := NB803_799.out; have hnc24 := NB799_803.out; have hcz25_0 : w22.cell? ⟨gb803, 0, none⟩ = some (.int .u64 0) := (zmq BK803.out 0).trans rfl; have hcz25_1 : w22.cell? ⟨gb803, 1, none⟩ = some (.int .u64 0) := (zmq BK803.out 1).trans rfl; have hfz25_0 := znq BK803.out 0; have hfz25_1 := znq BK803.out 1) | ((with_reducible refine zoq (f := 20) rfl ?_); refine goesL_ (some 74) rfl rfl Try.func20 (by kernel_rfl) rfl #[.bool x5_4, .agg #[.int .u64 t800, .int .u64 t801], .int .i64 (wrap64 (x7_4 - (ji7))), .bool t798] rfl (by (try simp only [List.map_toArray, List.map_cons, List.map_nil]); first | done | (simp only [hji7]; rfl) | rfl | (simp only [List.length_drop, List.length_take]; rfl)) ?_; (with_reducible refine (float_Join.calls kj4 x5_4 t800 t801 (wrap64 (x7_4 - (ji7))) t798 t804 _ A12.out).mono ?_); rintro e w26 ⟨rfl, hb⟩; refine ⟨_, rfl, ?_⟩; have n0_ := zA (zlq (g := gb795) (o := .cells #[.int .u64 t793, .int .u64 t794] 24 (0, 0)) (by (with_reducible repeat (first | refine zgq ?_ _ | refine zhq ?_ | refine ziq ?_ _)); refine zjq ?_ NB795_803.out _; (with_reducible repeat (first | refine zgq ?_ _ | refine zhq ?_ | refine ziq ?_ _)); refine zjq ?_ NB795_803.out _; (with_reducible repeat (first | refine zgq ?_ _ | refine zhq ?_ | refine ziq ?_ _)); exact BK795.out) hb); have n1_ := zA (zlq (g := gb799) (o := .cells #[.int .u64 t796, .int .u64 t797] 24 (0, 0)) (by (with_reducible repeat (first | refine zgq ?_ _ | refine zhq ?_ | refine ziq ?_ _)); refine zjq ?_ NB799_803.out _; (with_reducible repeat (first | refine zgq ?_ _ | refine zhq ?_ | refine ziq ?_ _)); refine zjq ?_ NB799_803.out _; (with_reducible repeat (first | refine zgq ?_ _ | refine zhq ?_ | refine ziq ?_ _)); exact BK799.out) hb); have n2_ := zA (zlq (g := gb803) (o := .cells #[.int .u64 t800, .int .u64 t801] 24 (0, 0)) (by (with_reducible repeat (first | refine zgq ?_ _ | refine zhq ?_ | refine ziq ?_ _)); refine zkq (cs := #[.int .u64 t800, .int .u64 0]) ?_ 1 _ rfl; (with_reducible repeat (first | refine zgq ?_ _ | refine zhq ?_ | refine ziq ?_ _)); refine zkq (cs := #[.int .u64 0, .int .u64 0]) ?_ 0 _ rfl; (with_reducible repeat (first | refine zgq ?_ _ | refine zhq ?_ | refine ziq ?_ _)); exact BK803.out) hb); have n3_ := zA (zeq (by repeat (first | (with_reducible first | exact HB.out | apply zaq | apply zbq | apply zcq | refine zdq ?_ GE795.out | refine zdq ?_ GE799.out | refine zdq ?_ GE803.out) | exact HB.out)) hb); clear BK795; clear BK799; clear BK803; clear HB; have BK795 := n0_; have BK799 := n1_; have BK803 := n2_; have HB := n3_; clear n0_ n1_ n2_ n3_; (try clear hb); (try clear hb2); (try clear hk); (try clear hi)))
    go_ret
    exact ⟨by first | rfl | (simp [errW_none, errW_some] <;> rfl) | (simp only [← hji7]; first | rfl | (simp [errW_none, errW_some] <;> rfl)) | (simp [*, errW_none, errW_some] <;> rfl), by repeat (first | (with_reducible first | exact HB.out | apply zaq | apply zbq | apply zcq | refine zdq ?_ GE795.out | refine zdq ?_ GE799.out | refine zdq ?_ GE803.out) | exact HB.out)⟩
   ·
    rw [if_neg c10] at H
    have c10b0 : (x5_4 == x8_4) = false := by simpa using c10
    (try (have c10b1 : decide (x5_4 = x8_4) = false := by simpa using c10))
    (try (have c10b2 : (x5_4 == x8_4) = false := by simpa using c10))
    (try (have c10b3 : ¬ (x5_4 = x8_4) := by simpa using c10))
    clear c10
    have HC27 := zA H
    clear H
    go_upto_if 75 with (first | ((with_reducible refine zoq (f := 53) rfl ?_); refine goesL_ (some 48) rfl rfl Try.func53 (by kernel_rfl) rfl #[.agg #[.int .u64 0, .int .u64 x6_4], .int .i64 ji7] rfl (by (try simp only [List.map_toArray, List.map_cons, List.map_nil]); first | done | (simp only [hji7]; rfl) | rfl | (simp only [List.length_drop, List.length_take]; rfl)) ?_; (with_reducible refine (wide_Shl.calls 0 x6_4 ji7 t793 t794 _ A8.out).mono ?_); rintro e w28 ⟨rfl, hb⟩; refine ⟨_, rfl, ?_⟩; have n0_ := zA (zeq (by repeat (first | (with_reducible first | exact HB.out | apply zaq | apply zbq | apply zcq) | exact HB.out)) hb); clear HB; have HB := n0_; clear n0_; (try clear hb); (try clear hb2); (try clear hk); (try clear hi)) | ((with_reducible refine zpq (N := 12) rfl ?_); refine zqq ?hg (N := 12) ?hd (cs := #[.int .u64 0, .int .u64 0]) (t := 24) ?hr ?_; (case hd => rfl); (case hg => rfl); (case hr => first | (go_simp; done) | (go_simp; rfl)); intro gb795 hg w29 hbox hb; have n0_ := zA (zeq (by repeat (first | (with_reducible first | exact HB.out | apply zaq | apply zbq | apply zcq) | exact HB.out)) hb); have n1_ := zA (hbox); have n2_ := zA ((by rw [hg]; exact (zfq (by repeat (first | (with_reducible first | exact HB.out | apply zaq | apply zbq | apply zcq) | exact HB.out))) : w.heap.size ≤ gb795)); have n3_ := zA ((by rw [hg]; exact (zfq (by repeat (first | (with_reducible first | exact HB.out | apply zaq | apply zbq | apply zcq) | exact HB.out))) : w.heap.size ≤ gb795)); clear HB; have HB := n0_; have BK795 := n1_; have GW795 := n2_; have GE795 := n3_; clear n0_ n1_ n2_ n3_; clear hb hbox hg; have hcz30_0 : w29.cell? ⟨gb795, 0, none⟩ = some (.int .u64 0) := (zmq BK795.out 0).trans rfl; have hcz30_1 : w29.cell? ⟨gb795, 1, none⟩ = some (.int .u64 0) := (zmq BK795.out 1).trans rfl; have hfz30_0 := znq BK795.out 0; have hfz30_1 := znq BK795.out 1) | ((with_reducible refine zoq (f := 51) rfl ?_); refine goesL_ (some 58) rfl rfl Try.func51 (by kernel_rfl) rfl #[.agg #[.int .u64 0, .int .u64 x9_4], .int .i64 (wrap64 ((wrap64 (x7_4 - (ji7))) - x10_4))] rfl (by (try simp only [List.map_toArray, List.map_cons, List.map_nil]); first | done | (simp only [hji7]; rfl) | rfl | (simp only [List.length_drop, List.length_take]; rfl)) ?_; (with_reducible refine (wide_Shr.calls kj4 0 x9_4 (wrap64 ((wrap64 (x7_4 - (ji7))) - x10_4)) t796 t797 t798 _ A9.out).mono ?_); rintro e w31 ⟨rfl, hb⟩; refine ⟨_, rfl, ?_⟩; have n0_ := zA (zlq (g := gb795) (o := .cells #[.int .u64 t793, .int .u64 t794] 24 (0, 0)) (by (with_reducible repeat (first | refine zgq ?_ _ | refine zhq ?_ | refine ziq ?_ _)); refine zkq (cs := #[.int .u64 t793, .int .u64 0]) ?_ 1 _ rfl; (with_reducible repeat (first | refine zgq ?_ _ | refine zhq ?_ | refine ziq ?_ _)); refine zkq (cs := #[.int .u64 0, .int .u64 0]) ?_ 0 _ rfl; (with_reducible repeat (first | refine zgq ?_ _ | refine zhq ?_ | refine ziq ?_ _)); exact BK795.out) hb); have n1_ := zA (zeq (by repeat (first | (with_reducible first | exact HB.out | apply zaq | apply zbq | apply zcq | refine zdq ?_ GE795.out) | exact HB.out)) hb); clear BK795; clear HB; have BK795 := n0_; have HB := n1_; clear n0_ n1_; (try clear hb); (try clear hb2); (try clear hk); (try clear hi)) | ((with_reducible refine zpq (N := 14) rfl ?_); refine zqq ?hg (N := 14) ?hd (cs := #[.int .u64 0, .int .u64 0]) (t := 24) ?hr ?_; (case hd => rfl); (case hg => rfl); (case hr => first | (go_simp; done) | (go_simp; rfl)); intro gb799 hg w32 hbox hb; have n0_ := zA (zlq (g := gb795) (o := .cells #[.int .u64 t793, .int .u64 t794] 24 (0, 0)) (by (with_reducible repeat (first | refine zgq ?_ _ | refine zhq ?_ | refine ziq ?_ _)); exact BK795.out) hb); have n1_ := zA (zeq (by repeat (first | (with_reducible first | exact HB.out | apply zaq | apply zbq | apply zcq | refine zdq ?_ GE795.out) | exact HB.out)) hb); have n2_ := zA (hbox); have n3_ := zA ((by rw [hg]; exact (zfq (by repeat (first | (with_reducible first | exact HB.out | apply zaq | apply zbq | apply zcq | refine zdq ?_ GE795.out) | exact HB.out))) : w.heap.size ≤ gb799)); have n4_ := zA ((by rw [hg]; exact (zfq (by repeat (first | (with_reducible first | exact HB.out | apply zaq | apply zbq | apply zcq | refine zdq ?_ GE795.out) | exact HB.out))) : w.heap.size ≤ gb799)); have n5_ := zA ((by rw [hg]; exact Nat.ne_of_lt (blk_lt (g := gb795) (o := .cells #[.int .u64 t793, .int .u64 t794] 24 (0, 0)) (by (with_reducible repeat (first | refine zgq ?_ _ | refine zhq ?_ | refine ziq ?_ _)); exact BK795.out)) : gb795 ≠ gb799)); have n6_ := zA ((by rw [hg]; exact Nat.ne_of_gt (blk_lt (g := gb795) (o := .cells #[.int .u64 t793, .int .u64 t794] 24 (0, 0)) (by (with_reducible repeat (first | refine zgq ?_ _ | refine zhq ?_ | refine ziq ?_ _)); exact BK795.out)) : gb799 ≠ gb795)); clear BK795; clear HB; have BK795 := n0_; have HB := n1_; have BK799 := n2_; have GW799 := n3_; have GE799 := n4_; have NB795_799 := n5_; have NB799_795 := n6_; clear n0_ n1_ n2_ n3_ n4_ n5_ n6_; clear hb hbox hg; have hnb33 := NB799_795.out; have hnc33 := NB795_799.out; have hcz34_0 : w32.cell? ⟨gb799, 0, none⟩ = some (.int .u64 0) := (zmq BK799.out 0).trans rfl; have hcz34_1 : w32.cell? ⟨gb799, 1, none⟩ = some (.int .u64 0) := (zmq BK799.out 1).trans rfl; have hfz34_0 := znq BK799.out 0; have hfz34_1 := znq BK799.out 1))
    (try simp only [Act.put, List.setIfInBounds_toArray, List.set_cons_zero, List.set_cons_succ])
    go_cut [] (fun wc => ∃ (kq : Nat) (x800000_26 : Int) (x800001_26 : Int), Aside0 (arith_sum.j1 kq x5_4 x8_4 (wrap64 (x7_4 - (ji7))) t798 t793 t794 x800000_26 x800001_26 = some r) ∧ Aside0 (kq ≤ kj4) ∧ Aside0 (wc.heap[gb795]? = some (.cells #[.int .u64 t793, .int .u64 t794] 24 (0, 0))) ∧ Aside0 (wc.heap[gb799]? = some (.cells #[.int .u64 x800000_26, .int .u64 x800001_26] 24 (0, 0))) ∧ Aside0 (Below w.heap.size w wc))
    case first =>
     have H := HC27.out
     clear HC27
     by_cases c35 : t798 = true
     ·
      subst c35
      have H1 : ((wide_Add.f t796 t797 0 1).bind fun bt805 => (arith_sum.j1 kj4 x5_4 x8_4 (wrap64 (x7_4 - (ji7))) true t793 t794 bt805.1 bt805.2.1)) = some r := by rw [if_pos rfl] at H; exact H
      clear H
      have H := H1
      clear H1
      replace H := Option.bind_eq_some_iff.mp H
      obtain ⟨⟨t805, t806, t807⟩, A360, H⟩ := H
      replace H : (arith_sum.j1 kj4 x5_4 x8_4 (wrap64 (x7_4 - (ji7))) true t793 t794 t805 t806) = some r := H
      have A36 := zA A360
      clear A360
      have H' := zA H
      clear H
      have hnb37 := NB799_795.out
      have hnc37 := NB795_799.out
      have hcz38_0 : w32.cell? ⟨gb799, 0, none⟩ = some (.int .u64 0) := (zmq BK799.out 0).trans rfl
      have hcz38_1 : w32.cell? ⟨gb799, 1, none⟩ = some (.int .u64 0) := (zmq BK799.out 1).trans rfl
      have hfz38_0 := znq BK799.out 0
      have hfz38_1 := znq BK799.out 1
      go_wp2_with (first | ((with_reducible refine zoq (f := 41) rfl ?_); refine goesL_ (some 79) rfl rfl Try.func41 (by kernel_rfl) rfl #[.agg #[.int .u64 t796, .int .u64 t797], .agg #[.int .u64 0, .int .u64 1]] rfl (by (try simp only [List.map_toArray, List.map_cons, List.map_nil]); first | done | rfl | (simp only [List.length_drop, List.length_take]; rfl)) ?_; (with_reducible refine (wide_Add.calls t796 t797 0 1 t805 t806 t807 _ A36.out).mono ?_); rintro e w39 ⟨rfl, hb⟩; refine ⟨_, rfl, ?_⟩; have n0_ := zA (zlq (g := gb795) (o := .cells #[.int .u64 t793, .int .u64 t794] 24 (0, 0)) (by (with_reducible repeat (first | refine zgq ?_ _ | refine zhq ?_ | refine ziq ?_ _)); refine zjq ?_ NB795_799.out _; (with_reducible repeat (first | refine zgq ?_ _ | refine zhq ?_ | refine ziq ?_ _)); refine zjq ?_ NB795_799.out _; (with_reducible repeat (first | refine zgq ?_ _ | refine zhq ?_ | refine ziq ?_ _)); exact BK795.out) hb); have n1_ := zA (zlq (g := gb799) (o := .cells #[.int .u64 t796, .int .u64 t797] 24 (0, 0)) (by (with_reducible repeat (first | refine zgq ?_ _ | refine zhq ?_ | refine ziq ?_ _)); refine zkq (cs := #[.int .u64 t796, .int .u64 0]) ?_ 1 _ rfl; (with_reducible repeat (first | refine zgq ?_ _ | refine zhq ?_ | refine ziq ?_ _)); refine zkq (cs := #[.int .u64 0, .int .u64 0]) ?_ 0 _ rfl; (with_reducible repeat (first | refine zgq ?_ _ | refine zhq ?_ | refine ziq ?_ _)); exact BK799.out) hb); have n2_ := zA (zeq (by repeat (first | (with_reducible first | exact HB.out | apply zaq | apply zbq | apply zcq | refine zdq ?_ GE795.out | refine zdq ?_ GE799.out) | exact HB.out)) hb); clear BK795; clear BK799; clear HB; have BK795 := n0_; have BK799 := n1_; have HB := n2_; clear n0_ n1_ n2_; (try clear hb); (try clear hb2); (try clear hk); (try clear hi); have hcz40_0 : w39.cell? ⟨gb799, 0, none⟩ = some (.int .u64 t796) := (zmq BK799.out 0).trans rfl; have hcz40_1 : w39.cell? ⟨gb799, 1, none⟩ = some (.int .u64 t797) := (zmq BK799.out 1).trans rfl; have hfz40_0 := znq BK799.out 0; have hfz40_1 := znq BK799.out 1))
      go_meet
      case rel => exact ⟨_, (t805), (t806), H', ⟨by have := HJ4.out; first | omega | exact Nat.le_refl _⟩, ⟨by (with_reducible repeat (first | refine zgq ?_ _ | refine zhq ?_ | refine ziq ?_ _)); refine zjq ?_ NB795_799.out _; (with_reducible repeat (first | refine zgq ?_ _ | refine zhq ?_ | refine ziq ?_ _)); refine zjq ?_ NB795_799.out _; (with_reducible repeat (first | refine zgq ?_ _ | refine zhq ?_ | refine ziq ?_ _)); exact BK795.out⟩, ⟨by (with_reducible repeat (first | refine zgq ?_ _ | refine zhq ?_ | refine ziq ?_ _)); refine zkq (cs := #[.int .u64 t805, .int .u64 t797]) ?_ 1 _ rfl; (with_reducible repeat (first | refine zgq ?_ _ | refine zhq ?_ | refine ziq ?_ _)); refine zkq (cs := #[.int .u64 t796, .int .u64 t797]) ?_ 0 _ rfl; (with_reducible repeat (first | refine zgq ?_ _ | refine zhq ?_ | refine ziq ?_ _)); exact BK799.out⟩, ⟨by repeat (first | (with_reducible first | exact HB.out | apply zaq | apply zbq | apply zcq | refine zdq ?_ GE795.out | refine zdq ?_ GE799.out) | exact HB.out)⟩⟩
     ·
      replace c35 := Bool.eq_false_iff.mpr c35
      subst c35
      have H1 : (arith_sum.j1 kj4 x5_4 x8_4 (wrap64 (x7_4 - (ji7))) false t793 t794 t796 t797) = some r := by rw [if_neg (show ¬ (false = true) by decide)] at H; exact H
      clear H
      have H := H1
      clear H1
      have H' := zA H
      clear H
      go_wp2
      go_meet
      case rel => exact ⟨_, (t796), (t797), H', ⟨by have := HJ4.out; first | omega | exact Nat.le_refl _⟩, ⟨by (with_reducible repeat (first | refine zgq ?_ _ | refine zhq ?_ | refine ziq ?_ _)); refine zjq ?_ NB795_799.out _; (with_reducible repeat (first | refine zgq ?_ _ | refine zhq ?_ | refine ziq ?_ _)); refine zjq ?_ NB795_799.out _; (with_reducible repeat (first | refine zgq ?_ _ | refine zhq ?_ | refine ziq ?_ _)); exact BK795.out⟩, ⟨by (with_reducible repeat (first | refine zgq ?_ _ | refine zhq ?_ | refine ziq ?_ _)); refine zkq (cs := #[.int .u64 t796, .int .u64 0]) ?_ 1 _ rfl; (with_reducible repeat (first | refine zgq ?_ _ | refine zhq ?_ | refine ziq ?_ _)); refine zkq (cs := #[.int .u64 0, .int .u64 0]) ?_ 0 _ rfl; (with_reducible repeat (first | refine zgq ?_ _ | refine zhq ?_ | refine ziq ?_ _)); exact BK799.out⟩, ⟨by repeat (first | (with_reducible first | exact HB.out | apply zaq | apply zbq | apply zcq | refine zdq ?_ GE795.out | refine zdq ?_ GE799.out) | exact HB.out)⟩⟩
    case rest =>
     clear HC27
     try clear c1
     try clear c2
     try clear p2
     try clear c3
     try clear c4
     try clear c5
     try clear c6
     try clear c6b0
     try clear p6
     try clear c9
     try clear c10
     try clear c10b0
     try clear c10b1
     try clear c10b2
     try clear c18
     try clear c20
     try clear c23
     try clear c24
     try clear c26
     try clear c33
     try clear c35
     try clear c37
     try clear hcz15_0
     try clear hcz15_1
     try clear hcz19_0
     try clear hcz19_1
     try clear hcz20_0
     try clear hcz20_1
     try clear hcz25_0
     try clear hcz25_1
     try clear hcz30_0
     try clear hcz30_1
     try clear hcz34_0
     try clear hcz34_1
     try clear hcz38_0
     try clear hcz38_1
     try clear hcz40_0
     try clear hcz40_1
     try clear hfz15_0
     try clear hfz15_1
     try clear hfz19_0
     try clear hfz19_1
     try clear hfz20_0
     try clear hfz20_1
     try clear hfz25_0
     try clear hfz25_1
     try clear hfz30_0
     try clear hfz30_1
     try clear hfz34_0
     try clear hfz34_1
     try clear hfz38_0
     try clear hfz38_1
     try clear hfz40_0
     try clear hfz40_1
     try clear p2
     obtain ⟨kq, x800000_26, x800001_26, HA, HJ26, BK795, BK799, HB⟩ := hcut
     cases kq with
     | zero => exact absurd HA.out (by simp [arith_sum.j1])
     | succ kj26 =>
      have H := HA.out
      clear HA
      simp only [arith_sum.j1] at H
      replace H := Option.bind_eq_some_iff.mp H
      obtain ⟨⟨t808, t809, t810⟩, A410, H⟩ := H
      replace H : (if t810 = true then ((wide_Sub.f x800000_26 x800001_26 t793 t794).bind fun bt812 => ((float_Join.f kj26 x8_4 bt812.1 bt812.2.1 (wrap64 (x7_4 - (ji7))) false).bind fun t815 => (some t815))) else (if (t808 == 0 && (t809 == 0)) = true then (if t798 = true then ((float_Join.f kj26 x5_4 t808 t809 (wrap64 (x7_4 - (ji7))) t798).bind fun t816 => (some t816)) else (some 0)) else ((float_Join.f kj26 x5_4 t808 t809 (wrap64 (x7_4 - (ji7))) t798).bind fun t817 => (some t817)))) = some r := H
      have A41 := zA A410
      clear A410
      by_cases c42 : t810 = true
      ·
       subst c42
       have H1 : ((wide_Sub.f x800000_26 x800001_26 t793 t794).bind fun bt812 => ((float_Join.f kj26 x8_4 bt812.1 bt812.2.1 (wrap64 (x7_4 - (ji7))) false).bind fun t815 => (some t815))) = some r := by rw [if_pos rfl] at H; exact H
       clear H
       have H := H1
       clear H1
       replace H := Option.bind_eq_some_iff.mp H
       obtain ⟨⟨t812, t813, t814⟩, A430, H⟩ := H
       replace H : ((float_Join.f kj26 x8_4 t812 t813 (wrap64 (x7_4 - (ji7))) false).bind fun t815 => (some t815)) = some r := H
       have A43 := zA A430
       clear A430
       replace H := Option.bind_eq_some_iff.mp H
       obtain ⟨t815, A440, H⟩ := H
       replace H : (some t815) = some r := H
       have A44 := zA A440
       clear A440
       obtain rfl := Option.some.inj H
       have hnb45 := NB795_799.out
       have hnc45 := NB799_795.out
       have hcz46_0 : wc.cell? ⟨gb795, 0, none⟩ = some (.int .u64 t793) := (zmq BK795.out 0).trans rfl
       have hcz46_1 : wc.cell? ⟨gb795, 1, none⟩ = some (.int .u64 t794) := (zmq BK795.out 1).trans rfl
       have hfz46_0 := znq BK795.out 0
       have hfz46_1 := znq BK795.out 1
       have hcz47_0 : wc.cell? ⟨gb799, 0, none⟩ = some (.int .u64 x800000_26) := (zmq BK799.out 0).trans rfl
       have hcz47_1 : wc.cell? ⟨gb799, 1, none⟩ = some (.int .u64 x800001_26) := (zmq BK799.out 1).trans rfl
       have hfz47_0 := znq BK799.out 0
       have hfz47_1 := znq BK799.out 1
       go_wp2_with (first | ((with_reducible refine zoq (f := 43) rfl ?_); refine goesL_ (some 85) rfl rfl Try.func43 (by kernel_rfl) rfl #[.agg #[.int .u64 t793, .int .u64 t794], .agg #[.int .u64 x800000_26, .int .u64 x800001_26]] rfl (by (try simp only [List.map_toArray, List.map_cons, List.map_nil]); first | done | rfl | (simp only [List.length_drop, List.length_take]; rfl)) ?_; (with_reducible refine (wide_Sub.calls t793 t794 x800000_26 x800001_26 t808 t809 true _ A41.out).mono ?_); rintro e w48 ⟨rfl, hb⟩; refine ⟨_, rfl, ?_⟩; have n0_ := zA (zlq (g := gb795) (o := .cells #[.int .u64 t793, .int .u64 t794] 24 (0, 0)) (by (with_reducible repeat (first | refine zgq ?_ _ | refine zhq ?_ | refine ziq ?_ _)); exact BK795.out) hb); have n1_ := zA (zlq (g := gb799) (o := .cells #[.int .u64 x800000_26, .int .u64 x800001_26] 24 (0, 0)) (by (with_reducible repeat (first | refine zgq ?_ _ | refine zhq ?_ | refine ziq ?_ _)); exact BK799.out) hb); have n2_ := zA (zeq (by repeat (first | (with_reducible first | exact HB.out | apply zaq | apply zbq | apply zcq | refine zdq ?_ GE795.out | refine zdq ?_ GE799.out) | exact HB.out)) hb); clear BK795; clear BK799; clear HB; have BK795 := n0_; have BK799 := n1_; have HB := n2_; clear n0_ n1_ n2_; (try clear hb); (try clear hb2); (try clear hk); (try clear hi)) | ((with_reducible refine zpq (N := 18) rfl ?_); refine zqq ?hg (N := 18) ?hd (cs := #[.int .u64 0, .int .u64 0]) (t := 24) ?hr ?_; (case hd => rfl); (case hg => rfl); (case hr => first | (go_simp; done) | (go_simp; rfl)); intro gb811 hg w49 hbox hb; have n0_ := zA (zlq (g := gb795) (o := .cells #[.int .u64 t793, .int .u64 t794] 24 (0, 0)) (by (with_reducible repeat (first | refine zgq ?_ _ | refine zhq ?_ | refine ziq ?_ _)); exact BK795.out) hb); have n1_ := zA (zlq (g := gb799) (o := .cells #[.int .u64 x800000_26, .int .u64 x800001_26] 24 (0, 0)) (by (with_reducible repeat (first | refine zgq ?_ _ | refine zhq ?_ | refine ziq ?_ _)); exact BK799.out) hb); have n2_ := zA (zeq (by repeat (first | (with_reducible first | exact HB.out | apply zaq | apply zbq | apply zcq | refine zdq ?_ GE795.out | refine zdq ?_ GE799.out) | exact HB.out)) hb); have n3_ := zA (hbox); have n4_ := zA ((by rw [hg]; exact (zfq (by repeat (first | (with_reducible first | exact HB.out | apply zaq | apply zbq | apply zcq | refine zdq ?_ GE795.out | refine zdq ?_ GE799.out) | exact HB.out))) : w.heap.size ≤ gb811)); have n5_ := zA ((by rw [hg]; exact (zfq (by repeat (first | (with_reducible first | exact HB.out | apply zaq | apply zbq | apply zcq | refine zdq ?_ GE795.out | refine zdq ?_ GE799.out) | exact HB.out))) : w.heap.size ≤ gb811)); have n6_ := zA ((by rw [hg]; exact Nat.ne_of_lt (blk_lt (g := gb795) (o := .cells #[.int .u64 t793, .int .u64 t794] 24 (0, 0)) (by (with_reducible repeat (first | refine zgq ?_ _ | refine zhq ?_ | refine ziq ?_ _)); exact BK795.out)) : gb795 ≠ gb811)); have n7_ := zA ((by rw [hg]; exact Nat.ne_of_gt (blk_lt (g := gb795) (o := .cells #[.int .u64 t793, .int .u64 t794] 24 (0, 0)) (by (with_reducible repeat (first | refine zgq ?_ _ | refine zhq ?_ | refine ziq ?_ _)); exact BK795.out)) : gb811 ≠ gb795)); have n8_ := zA ((by rw [hg]; exact Nat.ne_of_lt (blk_lt (g := gb799) (o := .cells #[.int .u64 x800000_26, .int .u64 x800001_26] 24 (0, 0)) (by (with_reducible repeat (first | refine zgq ?_ _ | refine zhq ?_ | refine ziq ?_ _)); exact BK799.out)) : gb799 ≠ gb811)); have n9_ := zA ((by rw [hg]; exact Nat.ne_of_gt (blk_lt (g := gb799) (o := .cells #[.int .u64 x800000_26, .int .u64 x800001_26] 24 (0, 0)) (by (with_reducible repeat (first | refine zgq ?_ _ | refine zhq ?_ | refine ziq ?_ _)); exact BK799.out)) : gb811 ≠ gb799)); clear BK795; clear BK799; clear HB; have BK795 := n0_; have BK799 := n1_; have HB := n2_; have BK811 := n3_; have GW811 := n4_; have GE811 := n5_; have NB795_811 := n6_; have NB811_795 := n7_; have NB799_811 := n8_; have NB811_799 := n9_; clear n0_ n1_ n2_ n3_ n4_ n5_ n6_ n7_ n8_ n9_; clear hb hbox hg; have hnb50 := NB811_795.out; have hnc50 := NB795_811.out; have hnb51 := NB811_799.out; have hnc51 := NB799_811.out; have hcz52_0 : w49.cell? ⟨gb811, 0, none⟩ = some (.int .u64 0) := (zmq BK811.out 0).trans rfl; have hcz52_1 : w49.cell? ⟨gb811, 1, none⟩ = some (.int .u64 0) := (zmq BK811.out 1).trans rfl; have hfz52_0 := znq BK811.out 0; have hfz52_1 := znq BK811.out 1; have hcz53_0 : w49.cell? ⟨gb799, 0, none⟩ = some (.int .u64 x800000_26) := (zmq BK799.out 0).trans rfl; have hcz53_1 : w49.cell? ⟨gb799, 1, none⟩ = some (.int .u64 x800001_26) := (zmq BK799.out 1).trans rfl; have hfz53_0 := znq BK799.out 0; have hfz53_1 := znq BK799.out 1; have hcz54_0 : w49.cell? ⟨gb795, 0, none⟩ = some (.int .u64 t793) := (zmq BK795.out 0).trans rfl; have hcz54_1 : w49.cell? ⟨gb795, 1, none⟩ = some (.int .u64 t794) := (zmq BK795.out 1).trans rfl; have hfz54_0 := znq BK795.out 0; have hfz54_1 := znq BK795.out 1) | ((with_reducible refine zoq (f := 43) rfl ?_); refine goesL_ (some 98) rfl rfl Try.func43 (by kernel_rfl) rfl #[.agg #[.int .u64 x800000_26, .int .u64 x800001_26], .agg #[.int .u64 t793, .int .u64 t794]] rfl (by (try simp only [List.map_toArray, List.map_cons, List.map_nil]); first | done | rfl | (simp only [List.length_drop, List.length_take]; rfl)) ?_; (with_reducible refine (wide_Sub.calls x800000_26 x800001_26 t793 t794 t812 t813 t814 _ A43.out).mono ?_); rintro e w55 ⟨rfl, hb⟩; refine ⟨_, rfl, ?_⟩; have n0_ := zA (zlq (g := gb795) (o := .cells #[.int .u64 t793, .int .u64 t794] 24 (0, 0)) (by (with_reducible repeat (first | refine zgq ?_ _ | refine zhq ?_ | refine ziq ?_ _)); refine zjq ?_ NB795_811.out _; (with_reducible repeat (first | refine zgq ?_ _ | refine zhq ?_ | refine ziq ?_ _)); refine zjq ?_ NB795_811.out _; (with_reducible repeat (first | refine zgq ?_ _ | refine zhq ?_ | refine ziq ?_ _)); exact BK795.out) hb); have n1_ := zA (zlq (g := gb799) (o := .cells #[.int .u64 x800000_26, .int .u64 x800001_26] 24 (0, 0)) (by (with_reducible repeat (first | refine zgq ?_ _ | refine zhq ?_ | refine ziq ?_ _)); refine zjq ?_ NB799_811.out _; (with_reducible repeat (first | refine zgq ?_ _ | refine zhq ?_ | refine ziq ?_ _)); refine zjq ?_ NB799_811.out _; (with_reducible repeat (first | refine zgq ?_ _ | refine zhq ?_ | refine ziq ?_ _)); exact BK799.out) hb); have n2_ := zA (zlq (g := gb811) (o := .cells #[.int .u64 t808, .int .u64 t809] 24 (0, 0)) (by (with_reducible repeat (first | refine zgq ?_ _ | refine zhq ?_ | refine ziq ?_ _)); refine zkq (cs := #[.int .u64 t808, .int .u64 0]) ?_ 1 _ rfl; (with_reducible repeat (first | refine zgq ?_ _ | refine zhq ?_ | refine ziq ?_ _)); refine zkq (cs := #[.int .u64 0, .int .u64 0]) ?_ 0 _ rfl; (with_reducible repeat (first | refine zgq ?_ _ | refine zhq ?_ | refine ziq ?_ _)); exact BK811.out) hb); have n3_ := zA (zeq (by repeat (first | (with_reducible first | exact HB.out | apply zaq | apply zbq | apply zcq | refine zdq ?_ GE795.out | refine zdq ?_ GE799.out | refine zdq ?_ GE811.out) | exact HB.out)) hb); clear BK795; clear BK799; clear BK811; clear HB; have BK795 := n0_; have BK799 := n1_; have BK811 := n2_; have HB := n3_; clear n0_ n1_ n2_ n3_; (try clear hb); (try clear hb2); (try clear hk); (try clear hi); have hcz56_0 : w55.cell? ⟨gb811, 0, none⟩ = some (.int .u64 t808) := (zmq BK811.out 0).trans rfl; have hcz56_1 : w55.cell? ⟨gb811, 1, none⟩ = some (.int .u64 t809) := (zmq BK811.out 1).trans rfl; have hfz56_0 := znq BK811.out 0; have hfz56_1 := znq BK811.out 1) | ((with_reducible refine zoq (f := 20) rfl ?_); refine goesL_ (some 104) rfl rfl Try.func20 (by kernel_rfl) rfl #[.bool x8_4, .agg #[.int .u64 t812, .int .u64 t813], .int .i64 (wrap64 (x7_4 - (ji7))), .bool false] rfl (by (try simp only [List.map_toArray, List.map_cons, List.map_nil]); first | done | (simp only [hji7]; rfl) | rfl | (simp only [List.length_drop, List.length_take]; rfl)) ?_; (with_reducible refine (float_Join.calls kj26 x8_4 t812 t813 (wrap64 (x7_4 - (ji7))) false t815 _ A44.out).mono ?_); rintro e w57 ⟨rfl, hb⟩; refine ⟨_, rfl, ?_⟩; have n0_ := zA (zlq (g := gb795) (o := .cells #[.int .u64 t793, .int .u64 t794] 24 (0, 0)) (by (with_reducible repeat (first | refine zgq ?_ _ | refine zhq ?_ | refine ziq ?_ _)); refine zjq ?_ NB795_811.out _; (with_reducible repeat (first | refine zgq ?_ _ | refine zhq ?_ | refine ziq ?_ _)); refine zjq ?_ NB795_811.out _; (with_reducible repeat (first | refine zgq ?_ _ | refine zhq ?_ | refine ziq ?_ _)); exact BK795.out) hb); have n1_ := zA (zlq (g := gb799) (o := .cells #[.int .u64 x800000_26, .int .u64 x800001_26] 24 (0, 0)) (by (with_reducible repeat (first | refine zgq ?_ _ | refine zhq ?_ | refine ziq ?_ _)); refine zjq ?_ NB799_811.out _; (with_reducible repeat (first | refine zgq ?_ _ | refine zhq ?_ | refine ziq ?_ _)); refine zjq ?_ NB799_811.out _; (with_reducible repeat (first | refine zgq ?_ _ | refine zhq ?_ | refine ziq ?_ _)); exact BK799.out) hb); have n2_ := zA (zlq (g := gb811) (o := .cells #[.int .u64 t812, .int .u64 t813] 24 (0, 0)) (by (with_reducible repeat (first | refine zgq ?_ _ | refine zhq ?_ | refine ziq ?_ _)); refine zkq (cs := #[.int .u64 t812, .int .u64 t809]) ?_ 1 _ rfl; (with_reducible repeat (first | refine zgq ?_ _ | refine zhq ?_ | refine ziq ?_ _)); refine zkq (cs := #[.int .u64 t808, .int .u64 t809]) ?_ 0 _ rfl; (with_reducible repeat (first | refine zgq ?_ _ | refine zhq ?_ | refine ziq ?_ _)); exact BK811.out) hb); have n3_ := zA (zeq (by repeat (first | (with_reducible first | exact HB.out | apply zaq | apply zbq | apply zcq | refine zdq ?_ GE795.out | refine zdq ?_ GE799.out | refine zdq ?_ GE811.out) | exact HB.out)) hb); clear BK795; clear BK799; clear BK811; clear HB; have BK795 := n0_; have BK799 := n1_; have BK811 := n2_; have HB := n3_; clear n0_ n1_ n2_ n3_; (try clear hb); (try clear hb2); (try clear hk); (try clear hi)))
       go_ret
       exact ⟨by first | rfl | (simp [errW_none, errW_some] <;> rfl) | (simp only [← hji7]; first | rfl | (simp [errW_none, errW_some] <;> rfl)) | (simp [*, errW_none, errW_some] <;> rfl), by repeat (first | (with_reducible first | exact HB.out | apply zaq | apply zbq | apply zcq | refine zdq ?_ GE795.out | refine zdq ?_ GE799.out | refine zdq ?_ GE811.out) | exact HB.out)⟩
      ·
       replace c42 := Bool.eq_false_iff.mpr c42
       subst c42
       have H1 : (if (t808 == 0 && (t809 == 0)) = true then (if t798 = true then ((float_Join.f kj26 x5_4 t808 t809 (wrap64 (x7_4 - (ji7))) t798).bind fun t816 => (some t816)) else (some 0)) else ((float_Join.f kj26 x5_4 t808 t809 (wrap64 (x7_4 - (ji7))) t798).bind fun t817 => (some t817))) = some r := by rw [if_neg (show ¬ (false = true) by decide)] at H; exact H
       clear H
       have H := H1
       clear H1
       by_cases c58 : (t808 == 0 && (t809 == 0)) = true
       ·
        rw [if_pos c58] at H
        have c58b0 : (t808 == 0 && (t809 == 0)) = true := c58
        (try (have c58b1 : decide (t808 = 0 && (t809 == 0)) = true := by simpa using c58))
        (try (have c58b2 : (t808 == 0 && (t809 == 0)) = true := by simpa using c58))
        clear c58
        by_cases c59 : t798 = true
        ·
         subst c59
         have H1 : ((float_Join.f kj26 x5_4 t808 t809 (wrap64 (x7_4 - (ji7))) true).bind fun t816 => (some t816)) = some r := by rw [if_pos rfl] at H; exact H
         clear H
         have H := H1
         clear H1
         replace H := Option.bind_eq_some_iff.mp H
         obtain ⟨t816, A600, H⟩ := H
         replace H : (some t816) = some r := H
         have A60 := zA A600
         clear A600
         obtain rfl := Option.some.inj H
         have hnb61 := NB795_799.out
         have hnc61 := NB799_795.out
         have hcz62_0 : wc.cell? ⟨gb795, 0, none⟩ = some (.int .u64 t793) := (zmq BK795.out 0).trans rfl
         have hcz62_1 : wc.cell? ⟨gb795, 1, none⟩ = some (.int .u64 t794) := (zmq BK795.out 1).trans rfl
         have hfz62_0 := znq BK795.out 0
         have hfz62_1 := znq BK795.out 1
         have hcz63_0 : wc.cell? ⟨gb799, 0, none⟩ = some (.int .u64 x800000_26) := (zmq BK799.out 0).trans rfl
         have hcz63_1 : wc.cell? ⟨gb799, 1, none⟩ = some (.int .u64 x800001_26) := (zmq BK799.out 1).trans rfl
         have hfz63_0 := znq BK799.out 0
         have hfz63_1 := znq BK799.out 1
         go_wp2_with (first | ((with_reducible refine zoq (f := 43) rfl ?_); refine goesL_ (some 85) rfl rfl Try.func43 (by kernel_rfl) rfl #[.agg #[.int .u64 t793, .int .u64 t794], .agg #[.int .u64 x800000_26, .int .u64 x800001_26]] rfl (by (try simp only [List.map_toArray, List.map_cons, List.map_nil]); first | done | rfl | (simp only [List.length_drop, List.length_take]; rfl)) ?_; (with_reducible refine (wide_Sub.calls t793 t794 x800000_26 x800001_26 t808 t809 false _ A41.out).mono ?_); rintro e w64 ⟨rfl, hb⟩; refine ⟨_, rfl, ?_⟩; have n0_ := zA (zlq (g := gb795) (o := .cells #[.int .u64 t793, .int .u64 t794] 24 (0, 0)) (by (with_reducible repeat (first | refine zgq ?_ _ | refine zhq ?_ | refine ziq ?_ _)); exact BK795.out) hb); have n1_ := zA (zlq (g := gb799) (o := .cells #[.int .u64 x800000_26, .int .u64 x800001_26] 24 (0, 0)) (by (with_reducible repeat (first | refine zgq ?_ _ | refine zhq ?_ | refine ziq ?_ _)); exact BK799.out) hb); have n2_ := zA (zeq (by repeat (first | (with_reducible first | exact HB.out | apply zaq | apply zbq | apply zcq | refine zdq ?_ GE795.out | refine zdq ?_ GE799.out) | exact HB.out)) hb); clear BK795; clear BK799; clear HB; have BK795 := n0_; have BK799 := n1_; have HB := n2_; clear n0_ n1_ n2_; (try clear hb); (try clear hb2); (try clear hk); (try clear hi)) | ((with_reducible refine zpq (N := 18) rfl ?_); refine zqq ?hg (N := 18) ?hd (cs := #[.int .u64 0, .int .u64 0]) (t := 24) ?hr ?_; (case hd => rfl); (case hg => rfl); (case hr => first | (go_simp; done) | (go_simp; rfl)); intro gb811 hg w65 hbox hb; have n0_ := zA (zlq (g := gb795) (o := .cells #[.int .u64 t793, .int .u64 t794] 24 (0, 0)) (by (with_reducible repeat (first | refine zgq ?_ _ | refine zhq ?_ | refine ziq ?_ _)); exact BK795.out) hb); have n1_ := zA (zlq (g := gb799) (o := .cells #[.int .u64 x800000_26, .int .u64 x800001_26] 24 (0, 0)) (by (with_reducible repeat (first | refine zgq ?_ _ | refine zhq ?_ | refine ziq ?_ _)); exact BK799.out) hb); have n2_ := zA (zeq (by repeat (first | (with_reducible first | exact HB.out | apply zaq | apply zbq | apply zcq | refine zdq ?_ GE795.out | refine zdq ?_ GE799.out) | exact HB.out)) hb); have n3_ := zA (hbox); have n4_ := zA ((by rw [hg]; exact (zfq (by repeat (first | (with_reducible first | exact HB.out | apply zaq | apply zbq | apply zcq | refine zdq ?_ GE795.out | refine zdq ?_ GE799.out) | exact HB.out))) : w.heap.size ≤ gb811)); have n5_ := zA ((by rw [hg]; exact (zfq (by repeat (first | (with_reducible first | exact HB.out | apply zaq | apply zbq | apply zcq | refine zdq ?_ GE795.out | refine zdq ?_ GE799.out) | exact HB.out))) : w.heap.size ≤ gb811)); have n6_ := zA ((by rw [hg]; exact Nat.ne_of_lt (blk_lt (g := gb795) (o := .cells #[.int .u64 t793, .int .u64 t794] 24 (0, 0)) (by (with_reducible repeat (first | refine zgq ?_ _ | refine zhq ?_ | refine ziq ?_ _)); exact BK795.out)) : gb795 ≠ gb811)); have n7_ := zA ((by rw [hg]; exact Nat.ne_of_gt (blk_lt (g := gb795) (o := .cells #[.int .u64 t793, .int .u64 t794] 24 (0, 0)) (by (with_reducible repeat (first | refine zgq ?_ _ | refine zhq ?_ | refine ziq ?_ _)); exact BK795.out)) : gb811 ≠ gb795)); have n8_ := zA ((by rw [hg]; exact Nat.ne_of_lt (blk_lt (g := gb799) (o := .cells #[.int .u64 x800000_26, .int .u64 x800001_26] 24 (0, 0)) (by (with_reducible repeat (first | refine zgq ?_ _ | refine zhq ?_ | refine ziq ?_ _)); exact BK799.out)) : gb799 ≠ gb811)); have n9_ := zA ((by rw [hg]; exact Nat.ne_of_gt (blk_lt (g := gb799) (o := .cells #[.int .u64 x800000_26, .int .u64 x800001_26] 24 (0, 0)) (by (with_reducible repeat (first | refine zgq ?_ _ | refine zhq ?_ | refine ziq ?_ _)); exact BK799.out)) : gb811 ≠ gb799)); clear BK795; clear BK799; clear HB; have BK795 := n0_; have BK799 := n1_; have HB := n2_; have BK811 := n3_; have GW811 := n4_; have GE811 := n5_; have NB795_811 := n6_; have NB811_795 := n7_; have NB799_811 := n8_; have NB811_799 := n9_; clear n0_ n1_ n2_ n3_ n4_ n5_ n6_ n7_ n8_ n9_; clear hb hbox hg; have hnb66 := NB811_795.out; have hnc66 := NB795_811.out; have hnb67 := NB811_799.out; have hnc67 := NB799_811.out; have hcz68_0 : w65.cell? ⟨gb811, 0, none⟩ = some (.int .u64 0) := (zmq BK811.out 0).trans rfl; have hcz68_1 : w65.cell? ⟨gb811, 1, none⟩ = some (.int .u64 0) := (zmq BK811.out 1).trans rfl; have hfz68_0 := znq BK811.out 0; have hfz68_1 := znq BK811.out 1) | ((with_reducible refine zoq (f := 20) rfl ?_); refine goesL_ (some 92) rfl rfl Try.func20 (by kernel_rfl) rfl #[.bool x5_4, .agg #[.int .u64 t808, .int .u64 t809], .int .i64 (wrap64 (x7_4 - (ji7))), .bool true] rfl (by (try simp only [List.map_toArray, List.map_cons, List.map_nil]); first | done | (simp only [hji7]; rfl) | rfl | (simp only [List.length_drop, List.length_take]; rfl)) ?_; (with_reducible refine (float_Join.calls kj26 x5_4 t808 t809 (wrap64 (x7_4 - (ji7))) true t816 _ A60.out).mono ?_); rintro e w69 ⟨rfl, hb⟩; refine ⟨_, rfl, ?_⟩; have n0_ := zA (zlq (g := gb795) (o := .cells #[.int .u64 t793, .int .u64 t794] 24 (0, 0)) (by (with_reducible repeat (first | refine zgq ?_ _ | refine zhq ?_ | refine ziq ?_ _)); refine zjq ?_ NB795_811.out _; (with_reducible repeat (first | refine zgq ?_ _ | refine zhq ?_ | refine ziq ?_ _)); refine zjq ?_ NB795_811.out _; (with_reducible repeat (first | refine zgq ?_ _ | refine zhq ?_ | refine ziq ?_ _)); exact BK795.out) hb); have n1_ := zA (zlq (g := gb799) (o := .cells #[.int .u64 x800000_26, .int .u64 x800001_26] 24 (0, 0)) (by (with_reducible repeat (first | refine zgq ?_ _ | refine zhq ?_ | refine ziq ?_ _)); refine zjq ?_ NB799_811.out _; (with_reducible repeat (first | refine zgq ?_ _ | refine zhq ?_ | refine ziq ?_ _)); refine zjq ?_ NB799_811.out _; (with_reducible repeat (first | refine zgq ?_ _ | refine zhq ?_ | refine ziq ?_ _)); exact BK799.out) hb); have n2_ := zA (zlq (g := gb811) (o := .cells #[.int .u64 t808, .int .u64 t809] 24 (0, 0)) (by (with_reducible repeat (first | refine zgq ?_ _ | refine zhq ?_ | refine ziq ?_ _)); refine zkq (cs := #[.int .u64 t808, .int .u64 0]) ?_ 1 _ rfl; (with_reducible repeat (first | refine zgq ?_ _ | refine zhq ?_ | refine ziq ?_ _)); refine zkq (cs := #[.int .u64 0, .int .u64 0]) ?_ 0 _ rfl; (with_reducible repeat (first | refine zgq ?_ _ | refine zhq ?_ | refine ziq ?_ _)); exact BK811.out) hb); have n3_ := zA (zeq (by repeat (first | (with_reducible first | exact HB.out | apply zaq | apply zbq | apply zcq | refine zdq ?_ GE795.out | refine zdq ?_ GE799.out | refine zdq ?_ GE811.out) | exact HB.out)) hb); clear BK795; clear BK799; clear BK811; clear HB; have BK795 := n0_; have BK799 := n1_; have BK811 := n2_; have HB := n3_; clear n0_ n1_ n2_ n3_; (try clear hb); (try clear hb2); (try clear hk); (try clear hi)))
         go_ret
         exact ⟨by first | rfl | (simp [errW_none, errW_some] <;> rfl) | (simp only [← hji7]; first | rfl | (simp [errW_none, errW_some] <;> rfl)) | (simp [*, errW_none, errW_some] <;> rfl), by repeat (first | (with_reducible first | exact HB.out | apply zaq | apply zbq | apply zcq | refine zdq ?_ GE795.out | refine zdq ?_ GE799.out | refine zdq ?_ GE811.out) | exact HB.out)⟩
        ·
         replace c59 := Bool.eq_false_iff.mpr c59
         subst c59
         have H1 : (some 0) = some r := by rw [if_neg (show ¬ (false = true) by decide)] at H; exact H
         clear H
         have H := H1
         clear H1
         obtain rfl := Option.some.inj H
         have hnb70 := NB795_799.out
         have hnc70 := NB799_795.out
         have hcz71_0 : wc.cell? ⟨gb795, 0, none⟩ = some (.int .u64 t793) := (zmq BK795.out 0).trans rfl
         have hcz71_1 : wc.cell? ⟨gb795, 1, none⟩ = some (.int .u64 t794) := (zmq BK795.out 1).trans rfl
         have hfz71_0 := znq BK795.out 0
         have hfz71_1 := znq BK795.out 1
         have hcz72_0 : wc.cell? ⟨gb799, 0, none⟩ = some (.int .u64 x800000_26) := (zmq BK799.out 0).trans rfl
         have hcz72_1 : wc.cell? ⟨gb799, 1, none⟩ = some (.int .u64 x800001_26) := (zmq BK799.out 1).trans rfl
         have hfz72_0 := znq BK799.out 0
         have hfz72_1 := znq BK799.out 1
         go_wp2_with (first | ((with_reducible refine zoq (f := 43) rfl ?_); refine goesL_ (some 85) rfl rfl Try.func43 (by kernel_rfl) rfl #[.agg #[.int .u64 t793, .int .u64 t794], .agg #[.int .u64 x800000_26, .int .u64 x800001_26]] rfl (by (try simp only [List.map_toArray, List.map_cons, List.map_nil]); first | done | rfl | (simp only [List.length_drop, List.length_take]; rfl)) ?_; (with_reducible refine (wide_Sub.calls t793 t794 x800000_26 x800001_26 t808 t809 false _ A41.out).mono ?_); rintro e w73 ⟨rfl, hb⟩; refine ⟨_, rfl, ?_⟩; have n0_ := zA (zlq (g := gb795) (o := .cells #[.int .u64 t793, .int .u64 t794] 24 (0, 0)) (by (with_reducible repeat (first | refine zgq ?_ _ | refine zhq ?_ | refine ziq ?_ _)); exact BK795.out) hb); have n1_ := zA (zlq (g := gb799) (o := .cells #[.int .u64 x800000_26, .int .u64 x800001_26] 24 (0, 0)) (by (with_reducible repeat (first | refine zgq ?_ _ | refine zhq ?_ | refine ziq ?_ _)); exact BK799.out) hb); have n2_ := zA (zeq (by repeat (first | (with_reducible first | exact HB.out | apply zaq | apply zbq | apply zcq | refine zdq ?_ GE795.out | refine zdq ?_ GE799.out) | exact HB.out)) hb); clear BK795; clear BK799; clear HB; have BK795 := n0_; have BK799 := n1_; have HB := n2_; clear n0_ n1_ n2_; (try clear hb); (try clear hb2); (try clear hk); (try clear hi)) | ((with_reducible refine zpq (N := 18) rfl ?_); refine zqq ?hg (N := 18) ?hd (cs := #[.int .u64 0, .int .u64 0]) (t := 24) ?hr ?_; (case hd => rfl); (case hg => rfl); (case hr => first | (go_simp; done) | (go_simp; rfl)); intro gb811 hg w74 hbox hb; have n0_ := zA (zlq (g := gb795) (o := .cells #[.int .u64 t793, .int .u64 t794] 24 (0, 0)) (by (with_reducible repeat (first | refine zgq ?_ _ | refine zhq ?_ | refine ziq ?_ _)); exact BK795.out) hb); have n1_ := zA (zlq (g := gb799) (o := .cells #[.int .u64 x800000_26, .int .u64 x800001_26] 24 (0, 0)) (by (with_reducible repeat (first | refine zgq ?_ _ | refine zhq ?_ | refine ziq ?_ _)); exact BK799.out) hb); have n2_ := zA (zeq (by repeat (first | (with_reducible first | exact HB.out | apply zaq | apply zbq | apply zcq | refine zdq ?_ GE795.out | refine zdq ?_ GE799.out) | exact HB.out)) hb); have n3_ := zA (hbox); have n4_ := zA ((by rw [hg]; exact (zfq (by repeat (first | (with_reducible first | exact HB.out | apply zaq | apply zbq | apply zcq | refine zdq ?_ GE795.out | refine zdq ?_ GE799.out) | exact HB.out))) : w.heap.size ≤ gb811)); have n5_ := zA ((by rw [hg]; exact (zfq (by repeat (first | (with_reducible first | exact HB.out | apply zaq | apply zbq | apply zcq | refine zdq ?_ GE795.out | refine zdq ?_ GE799.out) | exact HB.out))) : w.heap.size ≤ gb811)); have n6_ := zA ((by rw [hg]; exact Nat.ne_of_lt (blk_lt (g := gb795) (o := .cells #[.int .u64 t793, .int .u64 t794] 24 (0, 0)) (by (with_reducible repeat (first | refine zgq ?_ _ | refine zhq ?_ | refine ziq ?_ _)); exact BK795.out)) : gb795 ≠ gb811)); have n7_ := zA ((by rw [hg]; exact Nat.ne_of_gt (blk_lt (g := gb795) (o := .cells #[.int .u64 t793, .int .u64 t794] 24 (0, 0)) (by (with_reducible repeat (first | refine zgq ?_ _ | refine zhq ?_ | refine ziq ?_ _)); exact BK795.out)) : gb811 ≠ gb795)); have n8_ := zA ((by rw [hg]; exact Nat.ne_of_lt (blk_lt (g := gb799) (o := .cells #[.int .u64 x800000_26, .int .u64 x800001_26] 24 (0, 0)) (by (with_reducible repeat (first | refine zgq ?_ _ | refine zhq ?_ | refine ziq ?_ _)); exact BK799.out)) : gb799 ≠ gb811)); have n9_ := zA ((by rw [hg]; exact Nat.ne_of_gt (blk_lt (g := gb799) (o := .cells #[.int .u64 x800000_26, .int .u64 x800001_26] 24 (0, 0)) (by (with_reducible repeat (first | refine zgq ?_ _ | refine zhq ?_ | refine ziq ?_ _)); exact BK799.out)) : gb811 ≠ gb799)); clear BK795; clear BK799; clear HB; have BK795 := n0_; have BK799 := n1_; have HB := n2_; have BK811 := n3_; have GW811 := n4_; have GE811 := n5_; have NB795_811 := n6_; have NB811_795 := n7_; have NB799_811 := n8_; have NB811_799 := n9_; clear n0_ n1_ n2_ n3_ n4_ n5_ n6_ n7_ n8_ n9_; clear hb hbox hg; have hnb75 := NB811_795.out; have hnc75 := NB795_811.out; have hnb76 := NB811_799.out; have hnc76 := NB799_811.out; have hcz77_0 : w74.cell? ⟨gb811, 0, none⟩ = some (.int .u64 0) := (zmq BK811.out 0).trans rfl; have hcz77_1 : w74.cell? ⟨gb811, 1, none⟩ = some (.int .u64 0) := (zmq BK811.out 1).trans rfl; have hfz77_0 := znq BK811.out 0; have hfz77_1 := znq BK811.out 1))
         go_ret
         exact ⟨by first | rfl | (simp [errW_none, errW_some] <;> rfl) | (simp only [← hji7]; first | rfl | (simp [errW_none, errW_some] <;> rfl)) | (simp [*, errW_none, errW_some] <;> rfl), by repeat (first | (with_reducible first | exact HB.out | apply zaq | apply zbq | apply zcq | refine zdq ?_ GE795.out | refine zdq ?_ GE799.out | refine zdq ?_ GE811.out) | exact HB.out)⟩
       ·
        rw [if_neg c58] at H
        have c58b0 : (t808 == 0 && (t809 == 0)) = false := by simpa using c58
        (try (have c58b1 : decide (t808 = 0 && (t809 == 0)) = false := by simpa using c58))
        (try (have c58b2 : (t808 == 0 && (t809 == 0)) = false := by simpa using c58))
        (try (have c58b3 : ¬ (t808 = 0 && (t809 == 0)) := by simpa using c58))
        clear c58
        replace H := Option.bind_eq_some_iff.mp H
        obtain ⟨t817, A780, H⟩ := H
        replace H : (some t817) = some r := H
        have A78 := zA A780
        clear A780
        obtain rfl := Option.some.inj H
        have hnb79 := NB795_799.out
        have hnc79 := NB799_795.out
        have hcz80_0 : wc.cell? ⟨gb795, 0, none⟩ = some (.int .u64 t793) := (zmq BK795.out 0).trans rfl
        have hcz80_1 : wc.cell? ⟨gb795, 1, none⟩ = some (.int .u64 t794) := (zmq BK795.out 1).trans rfl
        have hfz80_0 := znq BK795.out 0
        have hfz80_1 := znq BK795.out 1
        have hcz81_0 : wc.cell? ⟨gb799, 0, none⟩ = some (.int .u64 x800000_26) := (zmq BK799.out 0).trans rfl
        have hcz81_1 : wc.cell? ⟨gb799, 1, none⟩ = some (.int .u64 x800001_26) := (zmq BK799.out 1).trans rfl
        have hfz81_0 := znq BK799.out 0
        have hfz81_1 := znq BK799.out 1
        go_wp2_with (first | ((with_reducible refine zoq (f := 43) rfl ?_); refine goesL_ (some 85) rfl rfl Try.func43 (by kernel_rfl) rfl #[.agg #[.int .u64 t793, .int .u64 t794], .agg #[.int .u64 x800000_26, .int .u64 x800001_26]] rfl (by (try simp only [List.map_toArray, List.map_cons, List.map_nil]); first | done | rfl | (simp only [List.length_drop, List.length_take]; rfl)) ?_; (with_reducible refine (wide_Sub.calls t793 t794 x800000_26 x800001_26 t808 t809 false _ A41.out).mono ?_); rintro e w82 ⟨rfl, hb⟩; refine ⟨_, rfl, ?_⟩; have n0_ := zA (zlq (g := gb795) (o := .cells #[.int .u64 t793, .int .u64 t794] 24 (0, 0)) (by (with_reducible repeat (first | refine zgq ?_ _ | refine zhq ?_ | refine ziq ?_ _)); exact BK795.out) hb); have n1_ := zA (zlq (g := gb799) (o := .cells #[.int .u64 x800000_26, .int .u64 x800001_26] 24 (0, 0)) (by (with_reducible repeat (first | refine zgq ?_ _ | refine zhq ?_ | refine ziq ?_ _)); exact BK799.out) hb); have n2_ := zA (zeq (by repeat (first | (with_reducible first | exact HB.out | apply zaq | apply zbq | apply zcq | refine zdq ?_ GE795.out | refine zdq ?_ GE799.out) | exact HB.out)) hb); clear BK795; clear BK799; clear HB; have BK795 := n0_; have BK799 := n1_; have HB := n2_; clear n0_ n1_ n2_; (try clear hb); (try clear hb2); (try clear hk); (try clear hi)) | ((with_reducible refine zpq (N := 18) rfl ?_); refine zqq ?hg (N := 18) ?hd (cs := #[.int .u64 0, .int .u64 0]) (t := 24) ?hr ?_; (case hd => rfl); (case hg => rfl); (case hr => first | (go_simp; done) | (go_simp; rfl)); intro gb811 hg w83 hbox hb; have n0_ := zA (zlq (g := gb795) (o := .cells #[.int .u64 t793, .int .u64 t794] 24 (0, 0)) (by (with_reducible repeat (first | refine zgq ?_ _ | refine zhq ?_ | refine ziq ?_ _)); exact BK795.out) hb); have n1_ := zA (zlq (g := gb799) (o := .cells #[.int .u64 x800000_26, .int .u64 x800001_26] 24 (0, 0)) (by (with_reducible repeat (first | refine zgq ?_ _ | refine zhq ?_ | refine ziq ?_ _)); exact BK799.out) hb); have n2_ := zA (zeq (by repeat (first | (with_reducible first | exact HB.out | apply zaq | apply zbq | apply zcq | refine zdq ?_ GE795.out | refine zdq ?_ GE799.out) | exact HB.out)) hb); have n3_ := zA (hbox); have n4_ := zA ((by rw [hg]; exact (zfq (by repeat (first | (with_reducible first | exact HB.out | apply zaq | apply zbq | apply zcq | refine zdq ?_ GE795.out | refine zdq ?_ GE799.out) | exact HB.out))) : w.heap.size ≤ gb811)); have n5_ := zA ((by rw [hg]; exact (zfq (by repeat (first | (with_reducible first | exact HB.out | apply zaq | apply zbq | apply zcq | refine zdq ?_ GE795.out | refine zdq ?_ GE799.out) | exact HB.out))) : w.heap.size ≤ gb811)); have n6_ := zA ((by rw [hg]; exact Nat.ne_of_lt (blk_lt (g := gb795) (o := .cells #[.int .u64 t793, .int .u64 t794] 24 (0, 0)) (by (with_reducible repeat (first | refine zgq ?_ _ | refine zhq ?_ | refine ziq ?_ _)); exact BK795.out)) : gb795 ≠ gb811)); have n7_ := zA ((by rw [hg]; exact Nat.ne_of_gt (blk_lt (g := gb795) (o := .cells #[.int .u64 t793, .int .u64 t794] 24 (0, 0)) (by (with_reducible repeat (first | refine zgq ?_ _ | refine zhq ?_ | refine ziq ?_ _)); exact BK795.out)) : gb811 ≠ gb795)); have n8_ := zA ((by rw [hg]; exact Nat.ne_of_lt (blk_lt (g := gb799) (o := .cells #[.int .u64 x800000_26, .int .u64 x800001_26] 24 (0, 0)) (by (with_reducible repeat (first | refine zgq ?_ _ | refine zhq ?_ | refine ziq ?_ _)); exact BK799.out)) : gb799 ≠ gb811)); have n9_ := zA ((by rw [hg]; exact Nat.ne_of_gt (blk_lt (g := gb799) (o := .cells #[.int .u64 x800000_26, .int .u64 x800001_26] 24 (0, 0)) (by (with_reducible repeat (first | refine zgq ?_ _ | refine zhq ?_ | refine ziq ?_ _)); exact BK799.out)) : gb811 ≠ gb799)); clear BK795; clear BK799; clear HB; have BK795 := n0_; have BK799 := n1_; have HB := n2_; have BK811 := n3_; have GW811 := n4_; have GE811 := n5_; have NB795_811 := n6_; have NB811_795 := n7_; have NB799_811 := n8_; have NB811_799 := n9_; clear n0_ n1_ n2_ n3_ n4_ n5_ n6_ n7_ n8_ n9_; clear hb hbox hg; have hnb84 := NB811_795.out; have hnc84 := NB795_811.out; have hnb85 := NB811_799.out; have hnc85 := NB799_811.out; have hcz86_0 : w83.cell? ⟨gb811, 0, none⟩ = some (.int .u64 0) := (zmq BK811.out 0).trans rfl; have hcz86_1 : w83.cell? ⟨gb811, 1, none⟩ = some (.int .u64 0) := (zmq BK811.out 1).trans rfl; have hfz86_0 := znq BK811.out 0; have hfz86_1 := znq BK811.out 1) | ((with_reducible refine zoq (f := 20) rfl ?_); refine goesL_ (some 92) rfl rfl Try.func20 (by kernel_rfl) rfl #[.bool x5_4, .agg #[.int .u64 t808, .int .u64 t809], .int .i64 (wrap64 (x7_4 - (ji7))), .bool t798] rfl (by (try simp only [List.map_toArray, List.map_cons, List.map_nil]); first | done | (simp only [hji7]; rfl) | rfl | (simp only [List.length_drop, List.length_take]; rfl)) ?_; (with_reducible refine (float_Join.calls kj26 x5_4 t808 t809 (wrap64 (x7_4 - (ji7))) t798 t817 _ A78.out).mono ?_); rintro e w87 ⟨rfl, hb⟩; refine ⟨_, rfl, ?_⟩; have n0_ := zA (zlq (g := gb795) (o := .cells #[.int .u64 t793, .int .u64 t794] 24 (0, 0)) (by (with_reducible repeat (first | refine zgq ?_ _ | refine zhq ?_ | refine ziq ?_ _)); refine zjq ?_ NB795_811.out _; (with_reducible repeat (first | refine zgq ?_ _ | refine zhq ?_ | refine ziq ?_ _)); refine zjq ?_ NB795_811.out _; (with_reducible repeat (first | refine zgq ?_ _ | refine zhq ?_ | refine ziq ?_ _)); exact BK795.out) hb); have n1_ := zA (zlq (g := gb799) (o := .cells #[.int .u64 x800000_26, .int .u64 x800001_26] 24 (0, 0)) (by (with_reducible repeat (first | refine zgq ?_ _ | refine zhq ?_ | refine ziq ?_ _)); refine zjq ?_ NB799_811.out _; (with_reducible repeat (first | refine zgq ?_ _ | refine zhq ?_ | refine ziq ?_ _)); refine zjq ?_ NB799_811.out _; (with_reducible repeat (first | refine zgq ?_ _ | refine zhq ?_ | refine ziq ?_ _)); exact BK799.out) hb); have n2_ := zA (zlq (g := gb811) (o := .cells #[.int .u64 t808, .int .u64 t809] 24 (0, 0)) (by (with_reducible repeat (first | refine zgq ?_ _ | refine zhq ?_ | refine ziq ?_ _)); refine zkq (cs := #[.int .u64 t808, .int .u64 0]) ?_ 1 _ rfl; (with_reducible repeat (first | refine zgq ?_ _ | refine zhq ?_ | refine ziq ?_ _)); refine zkq (cs := #[.int .u64 0, .int .u64 0]) ?_ 0 _ rfl; (with_reducible repeat (first | refine zgq ?_ _ | refine zhq ?_ | refine ziq ?_ _)); exact BK811.out) hb); have n3_ := zA (zeq (by repeat (first | (with_reducible first | exact HB.out | apply zaq | apply zbq | apply zcq | refine zdq ?_ GE795.out | refine zdq ?_ GE799.out | refine zdq ?_ GE811.out) | exact HB.out)) hb); clear BK795; clear BK799; clear BK811; clear HB; have BK795 := n0_; have BK799 := n1_; have BK811 := n2_; have HB := n3_; clear n0_ n1_ n2_ n3_; (try clear hb); (try clear hb2); (try clear hk); (try clear hi)))
        go_ret
        exact ⟨by first | rfl | (simp [errW_none, errW_some] <;> rfl) | (simp only [← hji7]; first | rfl | (simp [errW_none, errW_some] <;> rfl)) | (simp [*, errW_none, errW_some] <;> rfl), by repeat (first | (with_reducible first | exact HB.out | apply zaq | apply zbq | apply zcq | refine zdq ?_ GE795.out | refine zdq ?_ GE799.out | refine zdq ?_ GE811.out) | exact HB.out)⟩

end Go.Proofs.Ytbejjlecpcphoaa.P
