-- Written by a program of this session's (a turned print), not by hand.
import Derived.Test.YtbejjlecpcphoaaPx0
import Derived.Test.YtbejjlecpcphoaaPx8
import Derived.Test.YtbejjlecpcphoaaPx9
import Derived.Test.YtbejjlecpcphoaaPx10
import Derived.Test.YtbejjlecpcphoaaPx25
namespace Go.Proofs.Ytbejjlecpcphoaa.P
open Go.RowKit Go.Proofs.YtbejjlecpcphoaaW.PrintWords Go.Proofs.YtbejjlecpcphoaaW.PrintLast Go.Proofs.YtbejjlecpcphoaaW.PrintMore
attribute [local go_sem] max2_int min2_int max_two min_two max_three min_three max_four min_four   -- for this text's walks alone
set_option linter.unusedVariables false
set_option linter.unusedSimpArgs false

/-! ### tabardlaw3_FloatBack: function 8 -/
def tabardlaw3_FloatBack.f (k : Nat) (a0 : Int) : Option (Bool) := (tabardlaw3_shown.f k).bind fun t321 => ((float_Split.f k a0).bind fun bt322 => ((float_Kind.f k a0).bind fun t325 => (if t325 ≥ 3 then (if t321 = true then (if bt322.2.1 = 0 then (some (bt322.2.2 == 0)) else (none)) else (none)) else ((float_Join.f k bt322.1 0 bt322.2.1 bt322.2.2 false).bind fun t326 => ((float_Join.f k bt322.1 bt322.2.1 0 (wrap64 (bt322.2.2 - 64)) false).bind fun t327 => ((float_Round.f k bt322.1 (([0, (Int.tmod bt322.2.1 4294967296) % 4294967296, (bt322.2.1 / 4294967296) % 4294967296, 0] : List Int)) (wrap64 (bt322.2.2 - 32)) false).bind fun t331 => (if t321 = true then (if t326 = a0 then (if t327 = a0 then (if t331 = a0 then (some (bt322.1 == (decide (a0 ≥ 9223372036854775808)))) else (none)) else (none)) else (none)) else (none))))))))
theorem tabardlaw3_FloatBack.mono : ∀ a0 k, LeO (tabardlaw3_FloatBack.f k a0) (tabardlaw3_FloatBack.f (k + 1) a0) := by
 intro a0 k
 unfold tabardlaw3_FloatBack.f
 repeat' first
   | (with_reducible exact float_Join.mono _ _ _ _ _ _)
   | (with_reducible exact float_Kind.mono _ _)
   | (with_reducible exact float_Round.mono _ _ _ _ _)
   | (with_reducible exact float_Split.mono _ _)
   | (with_reducible exact tabardlaw3_shown.mono _)
   | (with_reducible exact LeO.refl _)
   | (with_reducible exact LeO.none _)
   | (with_reducible refine LeO.ite ?_ ?_)
   | (with_reducible refine LeO.bind ?_ (fun _ => ?_))
   | exact float_Join.mono _ _ _ _ _ _
   | exact float_Kind.mono _ _
   | exact float_Round.mono _ _ _ _ _
   | exact float_Split.mono _ _
   | exact tabardlaw3_shown.mono _
   | exact LeO.none _
   | refine LeO.ite ?_ ?_
   | refine LeO.bind ?_ (fun _ => ?_)
set_option maxHeartbeats 8000000 in
set_option maxRecDepth 100000 in
theorem tabardlaw3_FloatBack.calls (k : Nat) (a0 : Int) (r : Bool) (w : World) (h : tabardlaw3_FloatBack.f k a0 = some r) :
  Calls Try.prog 8 #[.int .u64 a0] w fun e w' => e = .returned (.bool r) ∧ Below w.heap.size w w' := by
 have hu24 := Try.underlying24
 have HB := zA (Below.refl w.heap.size w)
 have H : ((tabardlaw3_shown.f k).bind fun t321 => ((float_Split.f k a0).bind fun bt322 => ((float_Kind.f k a0).bind fun t325 => (if t325 ≥ 3 then (if t321 = true then (if bt322.2.1 = 0 then (some (bt322.2.2 == 0)) else (none)) else (none)) else ((float_Join.f k bt322.1 0 bt322.2.1 bt322.2.2 false).bind fun t326 => ((float_Join.f k bt322.1 bt322.2.1 0 (wrap64 (bt322.2.2 - 64)) false).bind fun t327 => ((float_Round.f k bt322.1 (([0, (Int.tmod bt322.2.1 4294967296) % 4294967296, (bt322.2.1 / 4294967296) % 4294967296, 0] : List Int)) (wrap64 (bt322.2.2 - 32)) false).bind fun t331 => (if t321 = true then (if t326 = a0 then (if t327 = a0 then (if t331 = a0 then (some (bt322.1 == (decide (a0 ≥ 9223372036854775808)))) else (none)) else (none)) else (none)) else (none))))))))) = some r := h
 clear h
 replace H := Option.bind_eq_some_iff.mp H
 obtain ⟨t321, A20, H⟩ := H
 replace H : ((float_Split.f k a0).bind fun bt322 => ((float_Kind.f k a0).bind fun t325 => (if t325 ≥ 3 then (if t321 = true then (if bt322.2.1 = 0 then (some (bt322.2.2 == 0)) else (none)) else (none)) else ((float_Join.f k bt322.1 0 bt322.2.1 bt322.2.2 false).bind fun t326 => ((float_Join.f k bt322.1 bt322.2.1 0 (wrap64 (bt322.2.2 - 64)) false).bind fun t327 => ((float_Round.f k bt322.1 (([0, (Int.tmod bt322.2.1 4294967296) % 4294967296, (bt322.2.1 / 4294967296) % 4294967296, 0] : List Int)) (wrap64 (bt322.2.2 - 32)) false).bind fun t331 => (if t321 = true then (if t326 = a0 then (if t327 = a0 then (if t331 = a0 then (some (bt322.1 == (decide (a0 ≥ 9223372036854775808)))) else (none)) else (none)) else (none)) else (none)))))))) = some r := H
 have A2 := zA A20
 clear A20
 replace H := Option.bind_eq_some_iff.mp H
 obtain ⟨⟨t322, t323, t324⟩, A30, H⟩ := H
 replace H : ((float_Kind.f k a0).bind fun t325 => (if t325 ≥ 3 then (if t321 = true then (if t323 = 0 then (some (t324 == 0)) else (none)) else (none)) else ((float_Join.f k t322 0 t323 t324 false).bind fun t326 => ((float_Join.f k t322 t323 0 (wrap64 (t324 - 64)) false).bind fun t327 => ((float_Round.f k t322 (([0, (Int.tmod t323 4294967296) % 4294967296, (t323 / 4294967296) % 4294967296, 0] : List Int)) (wrap64 (t324 - 32)) false).bind fun t331 => (if t321 = true then (if t326 = a0 then (if t327 = a0 then (if t331 = a0 then (some (t322 == (decide (a0 ≥ 9223372036854775808)))) else (none)) else (none)) else (none)) else (none))))))) = some r := H
 have A3 := zA A30
 clear A30
 replace H := Option.bind_eq_some_iff.mp H
 obtain ⟨t325, A40, H⟩ := H
 replace H : (if t325 ≥ 3 then (if t321 = true then (if t323 = 0 then (some (t324 == 0)) else (none)) else (none)) else ((float_Join.f k t322 0 t323 t324 false).bind fun t326 => ((float_Join.f k t322 t323 0 (wrap64 (t324 - 64)) false).bind fun t327 => ((float_Round.f k t322 (([0, (Int.tmod t323 4294967296) % 4294967296, (t323 / 4294967296) % 4294967296, 0] : List Int)) (wrap64 (t324 - 32)) false).bind fun t331 => (if t321 = true then (if t326 = a0 then (if t327 = a0 then (if t331 = a0 then (some (t322 == (decide (a0 ≥ 9223372036854775808)))) else (none)) else (none)) else (none)) else (none)))))) = some r := H
 have A4 := zA A40
 clear A40
 by_cases c5 : t325 ≥ 3
 ·
  rw [if_pos c5] at H
  have c5b0 : decide (3 ≤ t325) = true := decide_eq_true c5
  clear c5
  by_cases c6 : t321 = true
  ·
   subst c6
   have H1 : (if t323 = 0 then (some (t324 == 0)) else (none)) = some r := by rw [if_pos rfl] at H; exact H
   clear H
   have H := H1
   clear H1
   by_cases c7 : t323 = 0
   ·
    rw [if_pos c7] at H
    have c7b0 : (t323 == 0) = true := beq_iff_eq.mpr c7
    have c7b1 : (t323 != 0) = false := bne_eq_false_iff_eq.mpr c7
    clear c7
    obtain rfl := Option.some.inj H
    go_enter Try.func8, Try.ntmps8
    go_wp2_with (first | ((with_reducible refine zoq (f := 19) rfl ?_); refine goesL_ (some 10) rfl rfl Try.func19 (by kernel_rfl) rfl #[] rfl (by (try simp only [List.map_toArray, List.map_cons, List.map_nil]); first | done | rfl | (simp only [List.length_drop, List.length_take]; rfl)) ?_; (with_reducible refine (tabardlaw3_shown.calls k  true _ A2.out).mono ?_); rintro e w8 ⟨rfl, hb⟩; refine ⟨_, rfl, ?_⟩; have n0_ := zA (zeq (by repeat (first | (with_reducible first | exact HB.out | apply zaq | apply zbq | apply zcq) | exact HB.out)) hb); clear HB; have HB := n0_; clear n0_; (try clear hb); (try clear hb2); (try clear hk); (try clear hi)) | ((with_reducible refine zoq (f := 26) rfl ?_); refine goesL_ (some 13) rfl rfl Try.func26 (by kernel_rfl) rfl #[.int .u64 a0] rfl (by (try simp only [List.map_toArray, List.map_cons, List.map_nil]); first | done | rfl | (simp only [List.length_drop, List.length_take]; rfl)) ?_; (with_reducible refine (float_Split.calls k a0 t322 t323 t324 _ A3.out).mono ?_); rintro e w' ⟨rfl, ⟨nd, rfl⟩⟩; refine ⟨_, rfl, ?_⟩) | ((with_reducible refine zoq (f := 23) rfl ?_); refine goesL_ (some 18) rfl rfl Try.func23 (by kernel_rfl) rfl #[.int .u64 a0] rfl (by (try simp only [List.map_toArray, List.map_cons, List.map_nil]); first | done | rfl | (simp only [List.length_drop, List.length_take]; rfl)) ?_; (with_reducible refine (float_Kind.calls k a0 t325 _ A4.out).mono ?_); rintro e w' ⟨rfl, ⟨nd, rfl⟩⟩; refine ⟨_, rfl, ?_⟩))
    go_ret
    exact ⟨by first | rfl | (simp [errW_none, errW_some] <;> rfl) | (simp [*, errW_none, errW_some] <;> rfl), by repeat (first | (with_reducible first | exact HB.out | apply zaq | apply zbq | apply zcq) | exact HB.out)⟩
   ·
    rw [if_neg c7] at H
    exact absurd H (by simp)
  ·
   replace c6 := Bool.eq_false_iff.mpr c6
   subst c6
   have H1 : (none) = some r := by rw [if_neg (show ¬ (false = true) by decide)] at H; exact H
   clear H
   have H := H1
   clear H1
   exact absurd H (by simp)
 ·
  rw [if_neg c5] at H
  have c5b0 : decide (3 ≤ t325) = false := decide_eq_false c5
  clear c5
  replace H := Option.bind_eq_some_iff.mp H
  obtain ⟨t326, A90, H⟩ := H
  replace H : ((float_Join.f k t322 t323 0 (wrap64 (t324 - 64)) false).bind fun t327 => ((float_Round.f k t322 (([0, (Int.tmod t323 4294967296) % 4294967296, (t323 / 4294967296) % 4294967296, 0] : List Int)) (wrap64 (t324 - 32)) false).bind fun t331 => (if t321 = true then (if t326 = a0 then (if t327 = a0 then (if t331 = a0 then (some (t322 == (decide (a0 ≥ 9223372036854775808)))) else (none)) else (none)) else (none)) else (none)))) = some r := H
  have A9 := zA A90
  clear A90
  replace H := Option.bind_eq_some_iff.mp H
  obtain ⟨t327, A100, H⟩ := H
  replace H : ((float_Round.f k t322 (([0, (Int.tmod t323 4294967296) % 4294967296, (t323 / 4294967296) % 4294967296, 0] : List Int)) (wrap64 (t324 - 32)) false).bind fun t331 => (if t321 = true then (if t326 = a0 then (if t327 = a0 then (if t331 = a0 then (some (t322 == (decide (a0 ≥ 9223372036854775808)))) else (none)) else (none)) else (none)) else (none))) = some r := H
  have A10 := zA A100
  clear A100
  obtain ⟨y328, hy328⟩ : ∃ y_ : List Int, y_ = (([0, (Int.tmod t323 4294967296) % 4294967296, (t323 / 4294967296) % 4294967296, 0] : List Int)) := ⟨_, rfl⟩
  replace H : ((float_Round.f k t322 y328 (wrap64 (t324 - 32)) false).bind fun t331 => (if t321 = true then (if t326 = a0 then (if t327 = a0 then (if t331 = a0 then (some (t322 == (decide (a0 ≥ 9223372036854775808)))) else (none)) else (none)) else (none)) else (none))) = some r := by first | (rw [hy328]; with_reducible exact H) | (have H2_ := (Option.bind_some _ _).symm.trans H; rw [hy328]; with_reducible exact H2_) | (have H2_ := (Option.bind_some _ _).symm.trans H; with_reducible exact H2_) | with_reducible exact H | (rw [hy328]; exact H) | exact H
  have Ny328 := zA hy328
  clear hy328
  replace H := Option.bind_eq_some_iff.mp H
  obtain ⟨t331, A110, H⟩ := H
  replace H : (if t321 = true then (if t326 = a0 then (if t327 = a0 then (if t331 = a0 then (some (t322 == (decide (a0 ≥ 9223372036854775808)))) else (none)) else (none)) else (none)) else (none)) = some r := H
  have A11 := zA A110
  clear A110
  by_cases c12 : t321 = true
  ·
   subst c12
   have H1 : (if t326 = a0 then (if t327 = a0 then (if t331 = a0 then (some (t322 == (decide (a0 ≥ 9223372036854775808)))) else (none)) else (none)) else (none)) = some r := by rw [if_pos rfl] at H; exact H
   clear H
   have H := H1
   clear H1
   by_cases c13 : t326 = a0
   ·
    rw [if_pos c13] at H
    have c13b0 : (t326 == a0) = true := beq_iff_eq.mpr c13
    have c13b1 : (t326 != a0) = false := bne_eq_false_iff_eq.mpr c13
    clear c13
    by_cases c14 : t327 = a0
    ·
     rw [if_pos c14] at H
     have c14b0 : (t327 == a0) = true := beq_iff_eq.mpr c14
     have c14b1 : (t327 != a0) = false := bne_eq_false_iff_eq.mpr c14
     clear c14
     by_cases c15 : t331 = a0
     ·
      rw [if_pos c15] at H
      have c15b0 : (t331 == a0) = true := beq_iff_eq.mpr c15
      have c15b1 : (t331 != a0) = false := bne_eq_false_iff_eq.mpr c15
      clear c15
      obtain rfl := Option.some.inj H
      go_enter Try.func8, Try.ntmps8
      go_wp2_with (first | ((with_reducible refine zoq (f := 19) rfl ?_); refine goesL_ (some 10) rfl rfl Try.func19 (by kernel_rfl) rfl #[] rfl (by (try simp only [List.map_toArray, List.map_cons, List.map_nil]); first | done | rfl | (simp only [List.length_drop, List.length_take]; rfl)) ?_; (with_reducible refine (tabardlaw3_shown.calls k  true _ A2.out).mono ?_); rintro e w16 ⟨rfl, hb⟩; refine ⟨_, rfl, ?_⟩; have n0_ := zA (zeq (by repeat (first | (with_reducible first | exact HB.out | apply zaq | apply zbq | apply zcq) | exact HB.out)) hb); clear HB; have HB := n0_; clear n0_; (try clear hb); (try clear hb2); (try clear hk); (try clear hi)) | ((with_reducible refine zoq (f := 26) rfl ?_); refine goesL_ (some 13) rfl rfl Try.func26 (by kernel_rfl) rfl #[.int .u64 a0] rfl (by (try simp only [List.map_toArray, List.map_cons, List.map_nil]); first | done | rfl | (simp only [List.length_drop, List.length_take]; rfl)) ?_; (with_reducible refine (float_Split.calls k a0 t322 t323 t324 _ A3.out).mono ?_); rintro e w' ⟨rfl, ⟨nd, rfl⟩⟩; refine ⟨_, rfl, ?_⟩) | ((with_reducible refine zoq (f := 23) rfl ?_); refine goesL_ (some 18) rfl rfl Try.func23 (by kernel_rfl) rfl #[.int .u64 a0] rfl (by (try simp only [List.map_toArray, List.map_cons, List.map_nil]); first | done | rfl | (simp only [List.length_drop, List.length_take]; rfl)) ?_; (with_reducible refine (float_Kind.calls k a0 t325 _ A4.out).mono ?_); rintro e w' ⟨rfl, ⟨nd, rfl⟩⟩; refine ⟨_, rfl, ?_⟩) | ((with_reducible refine zoq (f := 20) rfl ?_); refine goesL_ (some 33) rfl rfl Try.func20 (by kernel_rfl) rfl #[.bool t322, .agg #[.int .u64 0, .int .u64 t323], .int .i64 t324, .bool false] rfl (by (try simp only [List.map_toArray, List.map_cons, List.map_nil]); first | done | rfl | (simp only [List.length_drop, List.length_take]; rfl)) ?_; (with_reducible refine (float_Join.calls k t322 0 t323 t324 false t326 _ A9.out).mono ?_); rintro e w17 ⟨rfl, hb⟩; refine ⟨_, rfl, ?_⟩; have n0_ := zA (zeq (by repeat (first | (with_reducible first | exact HB.out | apply zaq | apply zbq | apply zcq) | exact HB.out)) hb); clear HB; have HB := n0_; clear n0_; (try clear hb); (try clear hb2); (try clear hk); (try clear hi)) | ((with_reducible refine zoq (f := 20) rfl ?_); refine goesL_ (some 39) rfl rfl Try.func20 (by kernel_rfl) rfl #[.bool t322, .agg #[.int .u64 t323, .int .u64 0], .int .i64 (wrap64 (t324 - 64)), .bool false] rfl (by (try simp only [List.map_toArray, List.map_cons, List.map_nil]); first | done | rfl | (simp only [List.length_drop, List.length_take]; rfl)) ?_; (with_reducible refine (float_Join.calls k t322 t323 0 (wrap64 (t324 - 64)) false t327 _ A10.out).mono ?_); rintro e w18 ⟨rfl, hb⟩; refine ⟨_, rfl, ?_⟩; have n0_ := zA (zeq (by repeat (first | (with_reducible first | exact HB.out | apply zaq | apply zbq | apply zcq) | exact HB.out)) hb); clear HB; have HB := n0_; clear n0_; (try clear hb); (try clear hb2); (try clear hk); (try clear hi)) | ((with_reducible refine zpq (N := 47) rfl ?_); refine Kd.R_lit (Kd.int .u32) _ 40 ?hg (N := 47) ?hd (xs := ([0, (Int.tmod t323 4294967296) % 4294967296, (t323 / 4294967296) % 4294967296, 0] : List Int)) (inner := [.int .u32 0, .int .u32 ((Int.tmod t323 4294967296) % 4294967296), .int .u32 ((t323 / 4294967296) % 4294967296), .int .u32 0]) (ok := fun _ => True) (okp := fun _ => True) ?hr ?hp (fun _ hk => hk) trivial (Below.refl _ _) (Nat.le_refl _) (by simp) ?_; (case hd => rfl); (case hg => rfl); (case hr => first | (go_simp; done) | (go_simp; rfl)); (case hp => exact (Reps.one (show Kd.M (Kd.int .u32) _ _ _ 0 [.int .u32 0] from rfl) (Reps.one (show Kd.M (Kd.int .u32) _ _ _ ((Int.tmod t323 4294967296) % 4294967296) [.int .u32 ((Int.tmod t323 4294967296) % 4294967296)] from rfl) (Reps.one (show Kd.M (Kd.int .u32) _ _ _ ((t323 / 4294967296) % 4294967296) [.int .u32 ((t323 / 4294967296) % 4294967296)] from rfl) (Reps.one (show Kd.M (Kd.int .u32) _ _ _ 0 [.int .u32 0] from rfl) (Reps.none _ _)))))); intro v329 w19 ho20 hb hg_ hnew_; clear hg_ hnew_; (first | rw [← Ny328.out] at ho20 | (simp only [Int.reduceToNat] at ho20; rw [← Ny328.out] at ho20)); have n0_ := zA (Kd.R_lower ho20 (zfq (by repeat (first | (with_reducible first | exact HB.out | apply zaq | apply zbq | apply zcq) | exact HB.out)))); have n1_ := zA (zeq (by repeat (first | (with_reducible first | exact HB.out | apply zaq | apply zbq | apply zcq) | exact HB.out)) hb); clear HB; have HO330 := n0_; have HB := n1_; clear n0_ n1_; clear hb ho20; obtain ⟨Ao21, co21, eo21⟩ := Kd.R_slice HO330.out; subst eo21) | ((with_reducible refine zoq (f := 38) rfl ?_); refine goesL_ (some 50) rfl rfl Try.func38 (by kernel_rfl) rfl #[.bool t322, .slice Ao21 y328.length co21, .int .i64 (wrap64 (t324 - 32)), .bool false] rfl (by (try simp only [List.map_toArray, List.map_cons, List.map_nil]); first | done | rfl | (simp only [List.length_drop, List.length_take]; rfl)) ?_; (with_reducible refine (float_Round.calls k t322 _ _ y328 (wrap64 (t324 - 32)) false t331 _ ?side1 ?side2 A11.out).mono ?_); (case side1 => repeat (first | exact (Kd.R_reads' HO330.out).2.2 | (with_reducible refine Kd.C_alloc ?_ _) | (with_reducible refine Kd.C_drewN ?_ _) | (with_reducible refine Kd.C_drew ?_))); (case side2 => exact (Kd.R_reads' HO330.out).2.1); rintro e w22 ⟨rfl, hb⟩; refine ⟨_, rfl, ?_⟩; have n0_ := zA (Kd.R_below (by (with_reducible repeat (first | apply Kd.R_alloc | apply Kd.R_drewN | apply Kd.R_drew)); exact HO330.out) hb); have n1_ := zA (zeq (by repeat (first | (with_reducible first | exact HB.out | apply zaq | apply zbq | apply zcq) | exact HB.out)) hb); clear HO330; clear HB; have HO330 := n0_; have HB := n1_; clear n0_ n1_; (try clear hb); (try clear hb2); (try clear hk); (try clear hi)))
      go_ret
      exact ⟨by first | rfl | (simp [errW_none, errW_some] <;> rfl) | (simp [*, errW_none, errW_some] <;> rfl), by repeat (first | (with_reducible first | exact HB.out | apply zaq | apply zbq | apply zcq) | exact HB.out)⟩
     ·
      rw [if_neg c15] at H
      exact absurd H (by simp)
    ·
     rw [if_neg c14] at H
     exact absurd H (by simp)
   ·
    rw [if_neg c13] at H
    exact absurd H (by simp)
  ·
   replace c12 := Bool.eq_false_iff.mpr c12
   subst c12
   have H1 : (none) = some r := by rw [if_neg (show ¬ (false = true) by decide)] at H; exact H
   clear H
   have H := H1
   clear H1
   exact absurd H (by simp)

/-- THE ONE PURE STATEMENT of tabardlaw3_FloatBack: yours. -/
def tabardlaw3_FloatBack.Pure : Prop := ∀ (a0 : Int), (Lit.int .u64 a0).wf = true → ∃ k, tabardlaw3_FloatBack.f k a0 = some true
theorem tabardlaw3_FloatBack.walk (P : tabardlaw3_FloatBack.Pure) (a0 : Int) (w : World) (w0 : (Lit.int .u64 a0).wf = true) :
  Calls Try.prog 8 #[.int .u64 a0] w fun e w' => e = .returned (.bool true) ∧ Below w.heap.size w w' := by
 obtain ⟨k, h⟩ := P a0 w0
 refine (tabardlaw3_FloatBack.calls k a0 true w h).mono ?_
 rintro e w' ⟨rfl, hd⟩
 exact ⟨rfl, hd⟩

end Go.Proofs.Ytbejjlecpcphoaa.P
