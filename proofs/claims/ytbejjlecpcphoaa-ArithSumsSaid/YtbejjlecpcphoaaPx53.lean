-- Written by a program of this session's (a turned print), not by hand.
import Derived.Test.YtbejjlecpcphoaaPx0
import Derived.Test.YtbejjlecpcphoaaPx11
import Derived.Test.YtbejjlecpcphoaaPx12
import Derived.Test.YtbejjlecpcphoaaPx20
namespace Go.Proofs.Ytbejjlecpcphoaa.P
open Go.RowKit Go.Proofs.YtbejjlecpcphoaaW.PrintWords Go.Proofs.YtbejjlecpcphoaaW.PrintLast Go.Proofs.YtbejjlecpcphoaaW.PrintMore
attribute [local go_sem] max2_int min2_int max_two min_two max_three min_three max_four min_four   -- for this text's walks alone
set_option linter.unusedVariables false
set_option linter.unusedSimpArgs false

/-! ### tabardref1_Of: function 107 -/
def tabardref1_Of.f (k : Nat) (a0 : Int) : Option (List Int) := (tabardref1_Trim.f k (([(Int.tmod a0 4294967296) % 4294967296, (a0 / 4294967296) % 4294967296] : List Int))).bind fun t874 => (some t874)
theorem tabardref1_Of.mono : ∀ a0 k, LeO (tabardref1_Of.f k a0) (tabardref1_Of.f (k + 1) a0) := by
 intro a0 k
 unfold tabardref1_Of.f
 repeat' first
   | (with_reducible exact tabardref1_Trim.mono _ _)
   | (with_reducible exact LeO.refl _)
   | (with_reducible exact LeO.none _)
   | (with_reducible refine LeO.ite ?_ ?_)
   | (with_reducible refine LeO.bind ?_ (fun _ => ?_))
   | exact tabardref1_Trim.mono _ _
   | exact LeO.none _
   | refine LeO.ite ?_ ?_
   | refine LeO.bind ?_ (fun _ => ?_)
set_option maxHeartbeats 8000000 in
set_option maxRecDepth 100000 in
theorem tabardref1_Of.calls (k : Nat) (a0 : Int) (r : List Int) (w : World) (h : tabardref1_Of.f k a0 = some r) :
  Calls Try.prog 107 #[.int .u64 a0] w fun e w' => ∃ v0_ : Value, e = .returned (v0_) ∧ Kd.R (Kd.int .u32) 40 w' w.heap.size (fun _ => True) v0_ r ∧ Below w.heap.size w w' := by
 have HB := zA (Below.refl w.heap.size w)
 have H : ((tabardref1_Trim.f k (([(Int.tmod a0 4294967296) % 4294967296, (a0 / 4294967296) % 4294967296] : List Int))).bind fun t874 => (some t874)) = some r := h
 clear h
 obtain ⟨y871, hy871⟩ : ∃ y_ : List Int, y_ = (([(Int.tmod a0 4294967296) % 4294967296, (a0 / 4294967296) % 4294967296] : List Int)) := ⟨_, rfl⟩
 replace H : ((tabardref1_Trim.f k y871).bind fun t874 => (some t874)) = some r := by first | (rw [hy871]; with_reducible exact H) | (have H2_ := (Option.bind_some _ _).symm.trans H; rw [hy871]; with_reducible exact H2_) | (have H2_ := (Option.bind_some _ _).symm.trans H; with_reducible exact H2_) | with_reducible exact H | (rw [hy871]; exact H) | exact H
 have Ny871 := zA hy871
 clear hy871
 replace H := Option.bind_eq_some_iff.mp H
 obtain ⟨t874, A20, H⟩ := H
 replace H : (some t874) = some r := H
 have A2 := zA A20
 clear A20
 obtain rfl := Option.some.inj H
 go_enter Try.func107, Try.ntmps107
 go_wp2_with (first | ((with_reducible refine zpq (N := 9) rfl ?_); refine Kd.R_lit (Kd.int .u32) _ 40 ?hg (N := 9) ?hd (xs := ([(Int.tmod a0 4294967296) % 4294967296, (a0 / 4294967296) % 4294967296] : List Int)) (inner := [.int .u32 ((Int.tmod a0 4294967296) % 4294967296), .int .u32 ((a0 / 4294967296) % 4294967296)]) (ok := fun _ => True) (okp := fun _ => True) ?hr ?hp (fun _ hk => hk) trivial (Below.refl _ _) (Nat.le_refl _) (by simp) ?_; (case hd => rfl); (case hg => rfl); (case hr => first | (go_simp; done) | (go_simp; rfl)); (case hp => exact (Reps.one (show Kd.M (Kd.int .u32) _ _ _ ((Int.tmod a0 4294967296) % 4294967296) [.int .u32 ((Int.tmod a0 4294967296) % 4294967296)] from rfl) (Reps.one (show Kd.M (Kd.int .u32) _ _ _ ((a0 / 4294967296) % 4294967296) [.int .u32 ((a0 / 4294967296) % 4294967296)] from rfl) (Reps.none _ _)))); intro v872 w3 ho4 hb hg_ hnew_; clear hg_ hnew_; (first | rw [← Ny871.out] at ho4 | (simp only [Int.reduceToNat] at ho4; rw [← Ny871.out] at ho4)); have n0_ := zA (Kd.R_lower ho4 (zfq (by repeat (first | (with_reducible first | exact HB.out | apply zaq | apply zbq | apply zcq) | exact HB.out)))); have n1_ := zA (zeq (by repeat (first | (with_reducible first | exact HB.out | apply zaq | apply zbq | apply zcq) | exact HB.out)) hb); clear HB; have HO873 := n0_; have HB := n1_; clear n0_ n1_; clear hb ho4; obtain ⟨Ao5, co5, eo5⟩ := Kd.R_slice HO873.out; subst eo5) | ((with_reducible refine zoq (f := 78) rfl ?_); refine goesL_ (some 10) rfl rfl Try.func78 (by kernel_rfl) rfl #[.slice Ao5 y871.length co5] rfl (by (try simp only [List.map_toArray, List.map_cons, List.map_nil]); first | done | rfl | (simp only [List.length_drop, List.length_take]; rfl)) ?_; (with_reducible refine (tabardref1_Trim.calls k _ _ y871 t874 _ ?side1 ?side2 A2.out).mono ?_); (case side1 => repeat (first | exact (Kd.R_reads' HO873.out).2.2 | (with_reducible refine Kd.C_alloc ?_ _) | (with_reducible refine Kd.C_drewN ?_ _) | (with_reducible refine Kd.C_drew ?_))); (case side2 => exact (Kd.R_reads' HO873.out).2.1); rintro e w6 ⟨v875, rfl, ho0, hb⟩; refine ⟨_, rfl, ?_⟩; have n0_ := zA (Kd.R_elder' (by (with_reducible repeat (first | apply Kd.R_alloc | apply Kd.R_drewN | apply Kd.R_drew)); exact HO873.out) (Kd.R_base ho0) hb); have n1_ := zA (Kd.R_lower (Kd.R_new' ho0 (Kd.R_lt (by (with_reducible repeat (first | apply Kd.R_alloc | apply Kd.R_drewN | apply Kd.R_drew)); exact HO873.out))) (zfq (by repeat (first | (with_reducible first | exact HB.out | apply zaq | apply zbq | apply zcq) | exact HB.out)))); have n2_ := zA (zeq (by repeat (first | (with_reducible first | exact HB.out | apply zaq | apply zbq | apply zcq) | exact HB.out)) hb); clear HO873; clear HB; have HO873 := n0_; have HO876 := n1_; have HB := n2_; clear n0_ n1_ n2_; (try clear hb); (try clear hb2); (try clear hk); (try clear hi); (try clear ho0)))
 go_ret
 exact ⟨_, by first | rfl | (simp [errW_none, errW_some] <;> rfl) | (simp [*, errW_none, errW_some] <;> rfl), by (with_reducible repeat (first | apply Kd.R_alloc | apply Kd.R_drewN | apply Kd.R_drew)); exact Kd.R_mono HO876.out (fun _ hk => trivial), by repeat (first | (with_reducible first | exact HB.out | apply zaq | apply zbq | apply zcq) | exact HB.out)⟩

/-! ### tabardref3_Nat: function 98 -/
def tabardref3_Nat.f (k : Nat) (a0 : Int) : Option (List Int) := (tabardref1_Of.f k a0).bind fun t877 => (some t877)
theorem tabardref3_Nat.mono : ∀ a0 k, LeO (tabardref3_Nat.f k a0) (tabardref3_Nat.f (k + 1) a0) := by
 intro a0 k
 unfold tabardref3_Nat.f
 repeat' first
   | (with_reducible exact tabardref1_Of.mono _ _)
   | (with_reducible exact LeO.refl _)
   | (with_reducible exact LeO.none _)
   | (with_reducible refine LeO.ite ?_ ?_)
   | (with_reducible refine LeO.bind ?_ (fun _ => ?_))
   | exact tabardref1_Of.mono _ _
   | exact LeO.none _
   | refine LeO.ite ?_ ?_
   | refine LeO.bind ?_ (fun _ => ?_)
set_option maxHeartbeats 8000000 in
set_option maxRecDepth 100000 in
theorem tabardref3_Nat.calls (k : Nat) (a0 : Int) (r : List Int) (w : World) (h : tabardref3_Nat.f k a0 = some r) :
  Calls Try.prog 98 #[.int .u64 a0] w fun e w' => ∃ v0_ : Value, e = .returned (v0_) ∧ Kd.R (Kd.int .u32) 40 w' w.heap.size (fun _ => True) v0_ r ∧ Below w.heap.size w w' := by
 have HB := zA (Below.refl w.heap.size w)
 have H : ((tabardref1_Of.f k a0).bind fun t877 => (some t877)) = some r := h
 clear h
 replace H := Option.bind_eq_some_iff.mp H
 obtain ⟨t877, A20, H⟩ := H
 replace H : (some t877) = some r := H
 have A2 := zA A20
 clear A20
 obtain rfl := Option.some.inj H
 go_enter Try.func98, Try.ntmps98
 go_wp2_with (first | ((with_reducible refine zoq (f := 107) rfl ?_); refine goesL_ (some 4) rfl rfl Try.func107 (by kernel_rfl) rfl #[.int .u64 a0] rfl (by (try simp only [List.map_toArray, List.map_cons, List.map_nil]); first | done | rfl | (simp only [List.length_drop, List.length_take]; rfl)) ?_; (with_reducible refine (tabardref1_Of.calls k a0 t877 _ A2.out).mono ?_); rintro e w3 ⟨v878, rfl, ho0, hb⟩; refine ⟨_, rfl, ?_⟩; have n0_ := zA (Kd.R_lower ho0 (zfq (by repeat (first | (with_reducible first | exact HB.out | apply zaq | apply zbq | apply zcq) | exact HB.out)))); have n1_ := zA (zeq (by repeat (first | (with_reducible first | exact HB.out | apply zaq | apply zbq | apply zcq) | exact HB.out)) hb); clear HB; have HO879 := n0_; have HB := n1_; clear n0_ n1_; (try clear hb); (try clear hb2); (try clear hk); (try clear hi); (try clear ho0)))
 go_ret
 exact ⟨_, by first | rfl | (simp [errW_none, errW_some] <;> rfl) | (simp [*, errW_none, errW_some] <;> rfl), by (with_reducible repeat (first | apply Kd.R_alloc | apply Kd.R_drewN | apply Kd.R_drew)); exact HO879.out, by repeat (first | (with_reducible first | exact HB.out | apply zaq | apply zbq | apply zcq) | exact HB.out)⟩

/-! ### tabardref4_Exact: function 96 -/
def tabardref4_Exact.f (k : Nat) (a0 : Int) : Option (Bool × List Int) := (tabardref3_Split.f k a0).bind fun bt881 => ((tabardref3_Nat.f k bt881.2.1).bind fun t884 => ((tabardref3_Up.f k t884 (wrap64 (bt881.2.2 + 1074))).bind fun t887 => (some (bt881.1, t887))))
theorem tabardref4_Exact.mono : ∀ a0 k, LeO (tabardref4_Exact.f k a0) (tabardref4_Exact.f (k + 1) a0) := by
 intro a0 k
 unfold tabardref4_Exact.f
 repeat' first
   | (with_reducible exact tabardref3_Nat.mono _ _)
   | (with_reducible exact tabardref3_Split.mono _ _)
   | (with_reducible exact tabardref3_Up.mono _ _ _)
   | (with_reducible exact LeO.refl _)
   | (with_reducible exact LeO.none _)
   | (with_reducible refine LeO.ite ?_ ?_)
   | (with_reducible refine LeO.bind ?_ (fun _ => ?_))
   | exact tabardref3_Nat.mono _ _
   | exact tabardref3_Split.mono _ _
   | exact tabardref3_Up.mono _ _ _
   | exact LeO.none _
   | refine LeO.ite ?_ ?_
   | refine LeO.bind ?_ (fun _ => ?_)
set_option maxHeartbeats 8000000 in
set_option maxRecDepth 100000 in
theorem tabardref4_Exact.calls (k : Nat) (a0 : Int) (r1 : Bool) (r2 : List Int) (w : World) (h : tabardref4_Exact.f k a0 = some (r1, r2)) :
  Calls Try.prog 96 #[.int .u64 a0] w fun e w' => ∃ v1_ : Value, e = .returned (.agg #[.bool r1, v1_]) ∧ Kd.R (Kd.int .u32) 40 w' w.heap.size (fun _ => True) v1_ r2 ∧ Below w.heap.size w w' := by
 have hu99 := Try.underlying99
 have HB := zA (Below.refl w.heap.size w)
 have H : ((tabardref3_Split.f k a0).bind fun bt881 => ((tabardref3_Nat.f k bt881.2.1).bind fun t884 => ((tabardref3_Up.f k t884 (wrap64 (bt881.2.2 + 1074))).bind fun t887 => (some (bt881.1, t887))))) = some (r1, r2) := h
 clear h
 replace H := Option.bind_eq_some_iff.mp H
 obtain ⟨⟨t881, t882, t883⟩, A20, H⟩ := H
 replace H : ((tabardref3_Nat.f k t882).bind fun t884 => ((tabardref3_Up.f k t884 (wrap64 (t883 + 1074))).bind fun t887 => (some (t881, t887)))) = some (r1, r2) := H
 have A2 := zA A20
 clear A20
 replace H := Option.bind_eq_some_iff.mp H
 obtain ⟨t884, A30, H⟩ := H
 replace H : ((tabardref3_Up.f k t884 (wrap64 (t883 + 1074))).bind fun t887 => (some (t881, t887))) = some (r1, r2) := H
 have A3 := zA A30
 clear A30
 replace H := Option.bind_eq_some_iff.mp H
 obtain ⟨t887, A40, H⟩ := H
 replace H : (some (t881, t887)) = some (r1, r2) := H
 have A4 := zA A40
 clear A40
 simp only [Option.some.injEq, Prod.mk.injEq] at H
 obtain ⟨rfl, rfl⟩ := H
 go_enter Try.func96, Try.ntmps96
 go_wp2_with (first | ((with_reducible refine zpq (N := 2) rfl ?_); refine zqq ?hg (N := 2) ?hd (cs := #[.bool false, .slice none 0 0]) (t := 99) ?hr ?_; (case hd => rfl); (case hg => rfl); (case hr => first | (go_simp; done) | (go_simp; rfl)); intro gb880 hg w5 hbox hb; have n0_ := zA (zeq (by repeat (first | (with_reducible first | exact HB.out | apply zaq | apply zbq | apply zcq) | exact HB.out)) hb); have n1_ := zA (hbox); have n2_ := zA ((by rw [hg]; exact (zfq (by repeat (first | (with_reducible first | exact HB.out | apply zaq | apply zbq | apply zcq) | exact HB.out))) : w.heap.size ≤ gb880)); have n3_ := zA ((by rw [hg]; exact (zfq (by repeat (first | (with_reducible first | exact HB.out | apply zaq | apply zbq | apply zcq) | exact HB.out))) : w.heap.size ≤ gb880)); clear HB; have HB := n0_; have BK880 := n1_; have GW880 := n2_; have GE880 := n3_; clear n0_ n1_ n2_ n3_; clear hb hbox hg) | ((with_reducible refine zoq (f := 28) rfl ?_); refine goesL_ (some 8) rfl rfl Try.func28 (by kernel_rfl) rfl #[.int .u64 a0] rfl (by (try simp only [List.map_toArray, List.map_cons, List.map_nil]); first | done | rfl | (simp only [List.length_drop, List.length_take]; rfl)) ?_; (with_reducible refine (tabardref3_Split.calls k a0 t881 t882 t883 _ A2.out).mono ?_); rintro e w' ⟨rfl, ⟨nd, rfl⟩⟩; refine ⟨_, rfl, ?_⟩; (try ((try simp only [World.drewN_drewN]); rw [drewN_self w5]; generalize hq_ : World.drewN w5 _ = w5; have n0_ := zA (blk_at hq_ BK880.out); have n1_ := zA (below_at hq_ HB.out); clear hq_ BK880 HB; have BK880 := n0_; have HB := n1_; clear n0_ n1_))) | ((with_reducible refine zoq (f := 98) rfl ?_); refine goesL_ (some 14) rfl rfl Try.func98 (by kernel_rfl) rfl #[.int .u64 t882] rfl (by (try simp only [List.map_toArray, List.map_cons, List.map_nil]); first | done | rfl | (simp only [List.length_drop, List.length_take]; rfl)) ?_; (with_reducible refine (tabardref3_Nat.calls k t882 t884 _ A3.out).mono ?_); rintro e w6 ⟨v885, rfl, ho0, hb⟩; refine ⟨_, rfl, ?_⟩; have n0_ := zA (Kd.R_lower ho0 (zfq (by repeat (first | (with_reducible first | exact HB.out | apply zaq | apply zbq | apply zcq | refine zdq ?_ GE880.out) | exact HB.out)))); have n1_ := zA (zlq (g := gb880) (o := .cells #[.bool false, .slice none 0 0] 99 (0, 0)) (by (with_reducible repeat (first | refine zgq ?_ _ | refine zhq ?_ | refine ziq ?_ _)); exact BK880.out) hb); have n2_ := zA (zeq (by repeat (first | (with_reducible first | exact HB.out | apply zaq | apply zbq | apply zcq | refine zdq ?_ GE880.out) | exact HB.out)) hb); clear BK880; clear HB; have HO886 := n0_; have BK880 := n1_; have HB := n2_; clear n0_ n1_ n2_; (try clear hb); (try clear hb2); (try clear hk); (try clear hi); (try clear ho0); obtain ⟨Ao7, co7, eo7⟩ := Kd.R_slice HO886.out; subst eo7) | ((with_reducible refine zoq (f := 75) rfl ?_); refine goesL_ (some 17) rfl rfl Try.func75 (by kernel_rfl) rfl #[.slice Ao7 t884.length co7, .int .i64 (wrap64 (t883 + 1074))] rfl (by (try simp only [List.map_toArray, List.map_cons, List.map_nil]); first | done | rfl | (simp only [List.length_drop, List.length_take]; rfl)) ?_; (with_reducible refine (tabardref3_Up.calls k _ _ t884 (wrap64 (t883 + 1074)) t887 _ ?side1 ?side2 A4.out).mono ?_); (case side1 => repeat (first | exact (Kd.R_reads' HO886.out).2.2 | (with_reducible refine Kd.C_alloc ?_ _) | (with_reducible refine Kd.C_drewN ?_ _) | (with_reducible refine Kd.C_drew ?_))); (case side2 => exact (Kd.R_reads' HO886.out).2.1); rintro e w8 ⟨v888, rfl, ho0, hb⟩; refine ⟨_, rfl, ?_⟩; have n0_ := zA (Kd.R_elder' (by (with_reducible repeat (first | apply Kd.R_alloc | apply Kd.R_drewN | apply Kd.R_drew)); exact HO886.out) (Kd.R_base ho0) hb); have n1_ := zA (Kd.R_lower (Kd.R_new' ho0 (Kd.R_lt (by (with_reducible repeat (first | apply Kd.R_alloc | apply Kd.R_drewN | apply Kd.R_drew)); exact HO886.out))) (zfq (by repeat (first | (with_reducible first | exact HB.out | apply zaq | apply zbq | apply zcq | refine zdq ?_ GE880.out) | exact HB.out)))); have n2_ := zA (zlq (g := gb880) (o := .cells #[.bool false, .slice none 0 0] 99 (0, 0)) (by (with_reducible repeat (first | refine zgq ?_ _ | refine zhq ?_ | refine ziq ?_ _)); exact BK880.out) hb); have n3_ := zA (zeq (by repeat (first | (with_reducible first | exact HB.out | apply zaq | apply zbq | apply zcq | refine zdq ?_ GE880.out) | exact HB.out)) hb); clear HO886; clear BK880; clear HB; have HO886 := n0_; have HO889 := n1_; have BK880 := n2_; have HB := n3_; clear n0_ n1_ n2_ n3_; (try clear hb); (try clear hb2); (try clear hk); (try clear hi); (try clear ho0); obtain ⟨Ao9, co9, eo9⟩ := Kd.R_slice HO889.out; subst eo9; have hcz10_0 : w8.cell? ⟨gb880, 0, none⟩ = some (.bool false) := (zmq BK880.out 0).trans rfl; have hcz10_1 : w8.cell? ⟨gb880, 1, none⟩ = some (.slice none 0 0) := (zmq BK880.out 1).trans rfl; have hfz10_0 := znq BK880.out 0; have hfz10_1 := znq BK880.out 1))
 refine bodyPost_ret (results_cell_row rfl _ _ gb880 99 #[.bool t881, .slice Ao9 t887.length co9] (0, 0) _ rfl (by (with_reducible repeat (first | refine zgq ?_ _ | refine zhq ?_ | refine ziq ?_ _)); refine zkq (cs := #[.bool t881, .slice none 0 0]) ?_ 1 _ rfl; (with_reducible repeat (first | refine zgq ?_ _ | refine zhq ?_ | refine ziq ?_ _)); refine zkq (cs := #[.bool false, .slice none 0 0]) ?_ 0 _ rfl; (with_reducible repeat (first | refine zgq ?_ _ | refine zhq ?_ | refine ziq ?_ _)); exact BK880.out) Try.underlying99 rfl (by kernel_rfl)) rfl ?_
 exact ⟨_, by first | rfl | (simp [errW_none, errW_some] <;> rfl) | (simp [*, errW_none, errW_some] <;> rfl), by (with_reducible repeat (first | apply Kd.R_alloc | apply Kd.R_drewN | apply Kd.R_drew)); exact Kd.R_mono (Kd.R_far (p := ⟨gb880, 1, none⟩) (Kd.R_far (p := ⟨gb880, 0, none⟩) (Kd.R_types HO889.out BK880.out (by decide)) (fun _ hk => hk.2) (.bool t881)) (fun _ hk => hk.2) (.slice Ao9 t887.length co9)) (fun _ hk => trivial), by repeat (first | (with_reducible first | exact HB.out | apply zaq | apply zbq | apply zcq | refine zdq ?_ GE880.out) | exact HB.out)⟩

end Go.Proofs.Ytbejjlecpcphoaa.P
