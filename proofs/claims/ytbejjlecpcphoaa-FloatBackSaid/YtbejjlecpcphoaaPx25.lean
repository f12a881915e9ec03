-- Written by a program of this session's (a turned print), not by hand.
import Derived.Test.YtbejjlecpcphoaaPx0
import Derived.Test.YtbejjlecpcphoaaPx6
import Derived.Test.YtbejjlecpcphoaaPx8
import Derived.Test.YtbejjlecpcphoaaPx24
namespace Go.Proofs.Ytbejjlecpcphoaa.P
open Go.RowKit Go.Proofs.YtbejjlecpcphoaaW.PrintWords Go.Proofs.YtbejjlecpcphoaaW.PrintLast Go.Proofs.YtbejjlecpcphoaaW.PrintMore
attribute [local go_sem] max2_int min2_int max_two min_two max_three min_three max_four min_four   -- for this text's walks alone
set_option linter.unusedVariables false
set_option linter.unusedSimpArgs false

/-! ### float_Round: function 38 -/
mutual
def float_Round.j1 : Nat → Bool → List Int → Int → Bool → Option (Int)
 | 0, _, _, _, _ => none
 | k + 1, x0, x1, x2, x3 => float_Round.l1 k x0 x1 x2 x3 (x1.length : Int) 0 0 0
def float_Round.l1 : Nat → Bool → List Int → Int → Bool → Int → Int → Int → Int → Option (Int)
 | 0, _, _, _, _, _, _, _, _ => none
 | k + 1, x0, x1, x2, x3, x45, x46, x314000, x314001 => if x46 < x45 then ((wide_Shl.f x314000 x314001 32).bind fun bt314 => (if 0 ≤ (wrap64 ((wrap64 ((x1.length : Int) - 1)) - x46)) then (if (wrap64 ((wrap64 ((x1.length : Int) - 1)) - x46)) < (x1.length : Int) then (float_Round.l1 k x0 x1 x2 x3 x45 (wrap64 (x46 + 1)) bt314.1 (Go.bits .or .u64 bt314.2 (IntKind.u64.wrap (rd x1 (wrap64 ((wrap64 ((x1.length : Int) - 1)) - x46)))))) else (none)) else (none))) else ((float_Join.f k x0 x314000 x314001 x2 x3).bind fun t317 => (some t317))
def float_Round.l0 : Nat → Bool → List Int → Int → Bool → Int → List Int → Int → Int → Option (Int)
 | 0, _, _, _, _, _, _, _, _ => none
 | k + 1, x0, x1, x2, x3, x9, x23, x24, x25 => if x25 < x24 then (if 0 ≤ x25 then (if x25 < (x23.length : Int) then (if x3 = true then (float_Round.l0 k x0 x1 x2 true x9 x23 x24 (wrap64 (x25 + 1))) else (float_Round.l0 k x0 x1 x2 (decide ((rd x23 x25) > 0)) x9 x23 x24 (wrap64 (x25 + 1)))) else (none)) else (none)) else (if x2 < 4611686018427387904 then (if 0 ≤ x9 then (if x9 ≤ (x1.length : Int) then (float_Round.j1 k x0 (x1.drop (x9 : Int).toNat) (wrap64 (x2 + (wrap64 (32 * x9)))) x3) else (none)) else (none)) else (if 0 ≤ x9 then (if x9 ≤ (x1.length : Int) then (float_Round.j1 k x0 (x1.drop (x9 : Int).toNat) x2 x3) else (none)) else (none)))
end
def float_Round.f (k : Nat) (a0 : Bool) (l1 : List Int) (a2 : Int) (a3 : Bool) : Option (Int) := (nat_Trim.f k l1).bind fun t299 => (if (wrap64 ((t299.length : Int) - 4)) > 0 then (if 0 ≤ (wrap64 ((t299.length : Int) - 4)) then (if (wrap64 ((t299.length : Int) - 4)) ≤ (t299.length : Int) then ((some (t299.take ((wrap64 ((t299.length : Int) - 4)) : Int).toNat : List Int)).bind fun y302 => (float_Round.l0 k a0 t299 a2 a3 (wrap64 ((t299.length : Int) - 4)) y302 (y302.length : Int) 0)) else (none)) else (none)) else (float_Round.j1 k a0 t299 a2 a3))
theorem float_Round.mono_l : ∀ k, (∀ y0 y1 y2 y3, LeO (float_Round.j1 k y0 y1 y2 y3) (float_Round.j1 (k + 1) y0 y1 y2 y3)) ∧ (∀ y0 y1 y2 y3 y4 y5 y6 y7, LeO (float_Round.l1 k y0 y1 y2 y3 y4 y5 y6 y7) (float_Round.l1 (k + 1) y0 y1 y2 y3 y4 y5 y6 y7)) ∧ (∀ y0 y1 y2 y3 y4 y5 y6 y7, LeO (float_Round.l0 k y0 y1 y2 y3 y4 y5 y6 y7) (float_Round.l0 (k + 1) y0 y1 y2 y3 y4 y5 y6 y7))
 | 0 => ⟨fun _ _ _ _ r h => by simp [float_Round.j1] at h, fun _ _ _ _ _ _ _ _ r h => by simp [float_Round.l1] at h, fun _ _ _ _ _ _ _ _ r h => by simp [float_Round.l0] at h⟩
 | k + 1 => by
  obtain ⟨ih0, ih1, ih2⟩ := float_Round.mono_l k
  refine ⟨?_, ?_, ?_⟩
  ·
   intro y0 y1 y2 y3
   unfold float_Round.j1
   repeat' first
   | (with_reducible exact ih0 _ _ _ _)
   | (with_reducible exact ih1 _ _ _ _ _ _ _ _)
   | (with_reducible exact ih2 _ _ _ _ _ _ _ _)
   | (with_reducible exact float_Join.mono _ _ _ _ _ _)
   | (with_reducible exact nat_Trim.mono _ _)
   | (with_reducible exact LeO.refl _)
   | (with_reducible exact LeO.none _)
   | (with_reducible refine LeO.ite ?_ ?_)
   | (with_reducible refine LeO.bind ?_ (fun _ => ?_))
   | exact ih0 _ _ _ _
   | exact ih1 _ _ _ _ _ _ _ _
   | exact ih2 _ _ _ _ _ _ _ _
   | exact float_Join.mono _ _ _ _ _ _
   | exact nat_Trim.mono _ _
   | exact LeO.none _
   | refine LeO.ite ?_ ?_
   | refine LeO.bind ?_ (fun _ => ?_)
  ·
   intro y0 y1 y2 y3 y4 y5 y6 y7
   unfold float_Round.l1
   repeat' first
   | (with_reducible exact ih0 _ _ _ _)
   | (with_reducible exact ih1 _ _ _ _ _ _ _ _)
   | (with_reducible exact ih2 _ _ _ _ _ _ _ _)
   | (with_reducible exact float_Join.mono _ _ _ _ _ _)
   | (with_reducible exact nat_Trim.mono _ _)
   | (with_reducible exact LeO.refl _)
   | (with_reducible exact LeO.none _)
   | (with_reducible refine LeO.ite ?_ ?_)
   | (with_reducible refine LeO.bind ?_ (fun _ => ?_))
   | exact ih0 _ _ _ _
   | exact ih1 _ _ _ _ _ _ _ _
   | exact ih2 _ _ _ _ _ _ _ _
   | exact float_Join.mono _ _ _ _ _ _
   | exact nat_Trim.mono _ _
   | exact LeO.none _
   | refine LeO.ite ?_ ?_
   | refine LeO.bind ?_ (fun _ => ?_)
  ·
   intro y0 y1 y2 y3 y4 y5 y6 y7
   unfold float_Round.l0
   repeat' first
   | (with_reducible exact ih0 _ _ _ _)
   | (with_reducible exact ih1 _ _ _ _ _ _ _ _)
   | (with_reducible exact ih2 _ _ _ _ _ _ _ _)
   | (with_reducible exact float_Join.mono _ _ _ _ _ _)
   | (with_reducible exact nat_Trim.mono _ _)
   | (with_reducible exact LeO.refl _)
   | (with_reducible exact LeO.none _)
   | (with_reducible refine LeO.ite ?_ ?_)
   | (with_reducible refine LeO.bind ?_ (fun _ => ?_))
   | exact ih0 _ _ _ _
   | exact ih1 _ _ _ _ _ _ _ _
   | exact ih2 _ _ _ _ _ _ _ _
   | exact float_Join.mono _ _ _ _ _ _
   | exact nat_Trim.mono _ _
   | exact LeO.none _
   | refine LeO.ite ?_ ?_
   | refine LeO.bind ?_ (fun _ => ?_)
theorem float_Round.mono : ∀ a0 a1 a2 a3 k, LeO (float_Round.f k a0 a1 a2 a3) (float_Round.f (k + 1) a0 a1 a2 a3) := by
 intro a0 a1 a2 a3 k
 obtain ⟨ih0, ih1, ih2⟩ := float_Round.mono_l k
 unfold float_Round.f
 repeat' first
   | (with_reducible exact ih0 _ _ _ _)
   | (with_reducible exact ih1 _ _ _ _ _ _ _ _)
   | (with_reducible exact ih2 _ _ _ _ _ _ _ _)
   | (with_reducible exact float_Join.mono _ _ _ _ _ _)
   | (with_reducible exact nat_Trim.mono _ _)
   | (with_reducible exact LeO.refl _)
   | (with_reducible exact LeO.none _)
   | (with_reducible refine LeO.ite ?_ ?_)
   | (with_reducible refine LeO.bind ?_ (fun _ => ?_))
   | exact ih0 _ _ _ _
   | exact ih1 _ _ _ _ _ _ _ _
   | exact ih2 _ _ _ _ _ _ _ _
   | exact float_Join.mono _ _ _ _ _ _
   | exact nat_Trim.mono _ _
   | exact LeO.none _
   | refine LeO.ite ?_ ?_
   | refine LeO.bind ?_ (fun _ => ?_)
def float_Round.T17 : Bool × List (List Nat × List Nat) := (true, [([], []), ([0], [0]), ([], []), ([], []), ([3], [3]), ([4], [4]), ([], []), ([5, 6], [5, 6]), ([2, 7], [2, 7]), ([8], [8]), ([9], [9]), ([1, 10], [1, 10]), ([0, 1, 2, 3, 4, 5, 6, 7, 8, 9, 10, 11], []), ([12, 11, 0, 1, 2, 3, 4, 5, 6, 7, 8, 9, 10, 11], [11, 12])])
def float_Round.B17 : List Nat := [0, 1, 0, 0, 8, 24, 0, 120, 252, 508, 1020, 2047, 4095, 8191]
theorem float_Round.tab17 : rtab .any (opsOf Try.f38 17) = float_Round.T17 := by kernel_rfl
theorem float_Round.bits17 : waitsOk float_Round.T17.2 float_Round.B17 = true := by kernel_rfl
set_option maxHeartbeats 8000000 in
set_option maxRecDepth 100000 in
theorem float_Round.calls (k : Nat) (a0 : Bool) (A1 : Option Addr) (c1 : Nat) (l1 : List Int) (a2 : Int) (a3 : Bool) (r : Int) (w : World) (hr1 : Kd.C (Kd.int .u32) w A1 l1.length l1) (hc1 : l1.length ≤ c1) (h : float_Round.f k a0 l1 a2 a3 = some r) :
  Calls Try.prog 38 #[.bool a0, .slice A1 l1.length c1, .int .i64 a2, .bool a3] w fun e w' => e = .returned (.int .u64 r) ∧ Below w.heap.size w w' := by
 have hu24 := Try.underlying24
 have HR1 := zA hr1
 have HC1 := zA hc1
 clear hr1 hc1
 have HB := zA (Below.refl w.heap.size w)
 have H : ((nat_Trim.f k l1).bind fun t299 => (if (wrap64 ((t299.length : Int) - 4)) > 0 then (if 0 ≤ (wrap64 ((t299.length : Int) - 4)) then (if (wrap64 ((t299.length : Int) - 4)) ≤ (t299.length : Int) then ((some (t299.take ((wrap64 ((t299.length : Int) - 4)) : Int).toNat : List Int)).bind fun y302 => (float_Round.l0 k a0 t299 a2 a3 (wrap64 ((t299.length : Int) - 4)) y302 (y302.length : Int) 0)) else (none)) else (none)) else (float_Round.j1 k a0 t299 a2 a3))) = some r := h
 clear h
 replace H := Option.bind_eq_some_iff.mp H
 obtain ⟨t299, A50, H⟩ := H
 replace H : (if (wrap64 ((t299.length : Int) - 4)) > 0 then (if 0 ≤ (wrap64 ((t299.length : Int) - 4)) then (if (wrap64 ((t299.length : Int) - 4)) ≤ (t299.length : Int) then ((some (t299.take ((wrap64 ((t299.length : Int) - 4)) : Int).toNat : List Int)).bind fun y302 => (float_Round.l0 k a0 t299 a2 a3 (wrap64 ((t299.length : Int) - 4)) y302 (y302.length : Int) 0)) else (none)) else (none)) else (float_Round.j1 k a0 t299 a2 a3)) = some r := H
 have A5 := zA A50
 clear A50
 have HC6 := zA H
 clear H
 go_enter Try.func38, Try.ntmps38
 go_upto_if 20 with (first | ((with_reducible refine zoq (f := 80) rfl ?_); refine goesL_ (some 15) rfl rfl Try.func80 (by kernel_rfl) rfl #[.slice A1 l1.length c1] rfl (by (try simp only [List.map_toArray, List.map_cons, List.map_nil]); first | done | rfl | (simp only [List.length_drop, List.length_take]; rfl)) ?_; (with_reducible refine (nat_Trim.calls k _ _ l1 t299 _ ?side1 ?side2 A5.out).mono ?_); (case side1 => repeat (first | exact HR1.out | (with_reducible refine Kd.C_alloc ?_ _) | (with_reducible refine Kd.C_drewN ?_ _) | (with_reducible refine Kd.C_drew ?_))); (case side2 => exact HC1.out); rintro e w7 ⟨v300, rfl, ho0, hb⟩; refine ⟨_, rfl, ?_⟩; have n0_ := zA (Kd.R_lower ho0 (zfq (by repeat (first | (with_reducible first | exact HB.out | apply zaq | apply zbq | apply zcq) | exact HB.out)))); have n1_ := zA (zeq (by repeat (first | (with_reducible first | exact HB.out | apply zaq | apply zbq | apply zcq) | exact HB.out)) hb); clear HB; have HO301 := n0_; have HB := n1_; clear n0_ n1_; (try clear hb); (try clear hb2); (try clear hk); (try clear hi); (try clear ho0); obtain ⟨Ao8, co8, eo8⟩ := Kd.R_slice HO301.out; subst eo8))
 (try simp only [Act.put, List.setIfInBounds_toArray, List.set_cons_zero, List.set_cons_succ])
 go_cut [1, 2, 3] (fun v1 v2 v3 wc => ∃ (kq : Nat) (x1_5 : List Int) (x2_5 : Int) (x3_5 : Bool), v2 = .int .i64 x2_5 ∧ v3 = .bool x3_5 ∧ Aside0 (float_Round.j1 kq a0 x1_5 x2_5 x3_5 = some r) ∧ Aside0 (kq ≤ k) ∧ Aside0 (Kd.Q (Kd.int .u32) 40 wc w.heap.size (fun _ => True) v1 x1_5) ∧ Aside0 (Below w.heap.size w wc))
 case first =>
  have H := HC6.out
  clear HC6
  by_cases c9 : (wrap64 ((t299.length : Int) - 4)) > 0
  ·
   rw [if_pos c9] at H
   have c9b0 : decide (0 < (wrap64 ((t299.length : Int) - 4))) = true := decide_eq_true c9
   clear c9
   (first | rw [c9b0] | (simp only [i64_w, i32_w]; rw [c9b0]) | skip)
   obtain ⟨ji10, hji10⟩ : ∃ j_ : Int, (wrap64 ((t299.length : Int) - 4)) = j_ := ⟨_, rfl⟩
   replace H : (if 0 ≤ (ji10) then (if (ji10) ≤ (t299.length : Int) then ((some (t299.take ((ji10) : Int).toNat : List Int)).bind fun y302 => (float_Round.l0 k a0 t299 a2 a3 ji10 y302 (y302.length : Int) 0)) else (none)) else (none)) = some r := by first | (rw [hji10] at H; exact H) | (simp only [hji10] at H ⊢; exact H)
   (try rw [hji10] at c9b0)
   have hji10w : (IntKind.i64.wrap ((t299.length : Int) - 4)) = ji10 := (i64_w _).trans hji10
   by_cases c11 : 0 ≤ (ji10)
   ·
    rw [if_pos c11] at H
    have c11b0 := eq_true c11
    have c11b1 : decide (0 ≤ (ji10)) = true := decide_eq_true c11
    clear c11
    by_cases c12 : (ji10) ≤ (t299.length : Int)
    ·
     rw [if_pos c12] at H
     have c12b0 := eq_true c12
     have c12b1 : decide ((ji10) ≤ (t299.length : Int)) = true := decide_eq_true c12
     clear c12
     obtain ⟨y302, hy302⟩ : ∃ y_ : List Int, y_ = (t299.take ((ji10) : Int).toNat) := ⟨_, rfl⟩
     replace H : (float_Round.l0 k a0 t299 a2 a3 ji10 y302 (y302.length : Int) 0) = some r := by first | (rw [hy302]; with_reducible exact H) | (have H2_ := (Option.bind_some _ _).symm.trans H; rw [hy302]; with_reducible exact H2_) | (have H2_ := (Option.bind_some _ _).symm.trans H; with_reducible exact H2_) | with_reducible exact H | (rw [hy302]; exact H) | exact H
     have Ny302 := zA hy302
     clear hy302
     have H' := zA H
     clear H
     have q13 : ((ji10) : Int) ≤ ((t299.length : Int) : Int) := of_decide_eq_true (by first | (with_reducible assumption) | assumption)
     obtain ⟨i013, hi013, _, hsz13, _⟩ := info_parts info40
     have hroom13 : t299.length ≤ co8 := (Kd.R_reads' HO301.out).2.1
     have hC13 : Kd.C (Kd.int .u32) _ Ao8 t299.length t299 := (Kd.R_reads' HO301.out).2.2
     have hcut13 := cut_to (P := Try.prog) 85 40 .i64 Try.underlying85 hi013 Ao8 t299.length co8 (ji10) (of_decide_eq_true (by first | (with_reducible assumption) | assumption)) q13 hroom13
     have hr13 := Kd.C_take (m := ((ji10) : Int).toNat) hC13 (by omega)
     have hy13 : y302.length = ((ji10) : Int).toNat := (by rw [Ny302.out, List.length_take]; omega)
     rw [← Ny302.out] at hr13
     rw [← hy13] at hcut13
     have HR305 := zA hr13
     have HC305 := zA (show y302.length ≤ co8 from by omega)
     clear hr13 hC13 hroom13 hi013 hsz13
     have KY13 := zA hy13
     clear hy13
     have KL13 := zA (show ((ji10) : Int).toNat ≤ t299.length from by omega)
     replace q13 := eq_true q13
     go_wp2
     go_loopg [3, 25] k (fun kq v3 v25 w' => ∃ (x3_1 : Bool) (x25_1 : Int), v3 = .bool x3_1 ∧ v25 = .int .i64 x25_1 ∧ Aside0 (float_Round.l0 kq a0 t299 a2 x3_1 ji10 y302 (y302.length : Int) x25_1 = some r) ∧ Aside0 (kq ≤ k) ∧ Aside0 (Kd.Q (Kd.int .u32) 40 w' w.heap.size (fun _ => True) (.slice Ao8 t299.length co8) t299) ∧ Aside0 (Kd.C (Kd.int .u32) w' Ao8 y302.length y302) ∧ Aside0 (Below w.heap.size w w'))
     case atStart => exact ⟨(a3), (0), (by first | rfl | (simp; done) | (simp [*]; done)), (by first | rfl | (simp; done) | (simp [*]; done)), H', ⟨Nat.le_refl _⟩, ⟨Kd.Q_of_R (by (with_reducible repeat (first | apply Kd.R_alloc | apply Kd.R_drewN | apply Kd.R_drew)); exact HO301.out)⟩, ⟨by repeat (first | (with_reducible exact HR305.out) | (with_reducible refine Kd.C_alloc ?_ _) | (with_reducible refine Kd.C_drewN ?_ _) | (with_reducible refine Kd.C_drew ?_) | exact HR305.out)⟩, ⟨by repeat (first | (with_reducible first | exact HB.out | apply zaq | apply zbq | apply zcq) | exact HB.out)⟩⟩
     case round =>
      clear H'
      try clear c1
      try clear q1
      try clear p2
      try clear c3
      try clear p6
      try clear c8
      try clear c9
      try clear c9b0
      try clear c11
      try clear c11b0
      try clear c11b1
      try clear c12
      try clear c12b0
      try clear c12b1
      try clear q13
      try clear q13
      obtain ⟨x3_1, x25_1, rfl, rfl, HA, HK1, HO_1, HR305, HB⟩ := hrel
      cases gk with
      | zero => exact absurd HA.out (by simp [float_Round.l0])
      | succ k1 =>
       have H := HA.out
       clear HA
       simp only [float_Round.l0] at H
       by_cases c14 : x25_1 < (y302.length : Int)
       ·
        rw [if_pos c14] at H
        have c14b0 : decide (x25_1 < (y302.length : Int)) = true := decide_eq_true c14
        clear c14
        by_cases c15 : 0 ≤ x25_1
        ·
         rw [if_pos c15] at H
         have c15b0 : decide (0 ≤ x25_1) = true := decide_eq_true c15
         clear c15
         by_cases c16 : x25_1 < (y302.length : Int)
         ·
          rw [if_pos c16] at H
          have c16b0 : decide (x25_1 < (y302.length : Int)) = true := decide_eq_true c16
          clear c16
          by_cases c17 : x3_1 = true
          ·
           subst c17
           have H1 : (float_Round.l0 k1 a0 t299 a2 true ji10 y302 (y302.length : Int) (wrap64 (x25_1 + 1))) = some r := by rw [if_pos rfl] at H; exact H
           clear H
           have H := H1
           clear H1
           have H' := zA H
           clear H
           have p306 : 0 ≤ (x25_1 : Int) := of_decide_eq_true (by first | (with_reducible assumption) | assumption)
           have q306 : x25_1 < (y302.length : Int) := of_decide_eq_true (by first | (with_reducible assumption) | assumption)
           obtain ⟨ad306, e306, hx306_0⟩ := Kd.at_int HR305.out x25_1 p306 q306
           cases e306
           replace p306 := eq_true p306
           replace q306 := eq_true q306
           go_wp2
           go_roundg k1
           case measure => have := HK1.out; omega
           case rel => exact ⟨(true), (wrap64 (x25_1 + 1)), (by first | rfl | (simp; done) | (simp [*]; done)), (by first | rfl | (simp; done) | (simp [*]; done)), H', ⟨by have := HK1.out; omega⟩, ⟨by (with_reducible repeat (first | apply Kd.Q_alloc | apply Kd.Q_drewN | apply Kd.Q_drew)); exact HO_1.out⟩, ⟨by repeat (first | (with_reducible exact HR305.out) | (with_reducible refine Kd.C_alloc ?_ _) | (with_reducible refine Kd.C_drewN ?_ _) | (with_reducible refine Kd.C_drew ?_) | exact HR305.out)⟩, ⟨by repeat (first | (with_reducible first | exact HB.out | apply zaq | apply zbq | apply zcq) | exact HB.out)⟩⟩
          ·
           replace c17 := Bool.eq_false_iff.mpr c17
           subst c17
           have H1 : (float_Round.l0 k1 a0 t299 a2 (decide ((rd y302 x25_1) > 0)) ji10 y302 (y302.length : Int) (wrap64 (x25_1 + 1))) = some r := by rw [if_neg (show ¬ (false = true) by decide)] at H; exact H
           clear H
           have H := H1
           clear H1
           have H' := zA H
           clear H
           have p306 : 0 ≤ (x25_1 : Int) := of_decide_eq_true (by first | (with_reducible assumption) | assumption)
           have q306 : x25_1 < (y302.length : Int) := of_decide_eq_true (by first | (with_reducible assumption) | assumption)
           obtain ⟨ad306, e306, hx306_0⟩ := Kd.at_int HR305.out x25_1 p306 q306
           cases e306
           replace p306 := eq_true p306
           replace q306 := eq_true q306
           go_wp2
           go_roundg k1
           case measure => have := HK1.out; omega
           case rel => exact ⟨(decide ((rd y302 x25_1) > 0)), (wrap64 (x25_1 + 1)), (by first | rfl | (simp; done) | (simp [*]; done)), (by first | rfl | (simp; done) | (simp [*]; done)), H', ⟨by have := HK1.out; omega⟩, ⟨by (with_reducible repeat (first | apply Kd.Q_alloc | apply Kd.Q_drewN | apply Kd.Q_drew)); exact HO_1.out⟩, ⟨by repeat (first | (with_reducible exact HR305.out) | (with_reducible refine Kd.C_alloc ?_ _) | (with_reducible refine Kd.C_drewN ?_ _) | (with_reducible refine Kd.C_drew ?_) | exact HR305.out)⟩, ⟨by repeat (first | (with_reducible first | exact HB.out | apply zaq | apply zbq | apply zcq) | exact HB.out)⟩⟩
         ·
          rw [if_neg c16] at H
          exact absurd H (by simp)
        ·
         rw [if_neg c15] at H
         exact absurd H (by simp)
       ·
        rw [if_neg c14] at H
        have c14b0 : decide (x25_1 < (y302.length : Int)) = false := decide_eq_false c14
        clear c14
        by_cases c18 : a2 < 4611686018427387904
        ·
         rw [if_pos c18] at H
         have c18b0 : decide (a2 < 4611686018427387904) = true := decide_eq_true c18
         clear c18
         by_cases c19 : 0 ≤ ji10
         ·
          rw [if_pos c19] at H
          have c19b0 := eq_true c19
          have c19b1 : decide (0 ≤ ji10) = true := decide_eq_true c19
          clear c19
          by_cases c20 : ji10 ≤ (t299.length : Int)
          ·
           rw [if_pos c20] at H
           have c20b0 := eq_true c20
           have c20b1 : decide (ji10 ≤ (t299.length : Int)) = true := decide_eq_true c20
           clear c20
           obtain ⟨y307, hy307⟩ : ∃ y_ : List Int, y_ = (t299.drop (ji10 : Int).toNat) := ⟨_, rfl⟩
           replace H : (float_Round.j1 k1 a0 y307 (wrap64 (a2 + (wrap64 (32 * ji10)))) x3_1) = some r := by first | (rw [hy307]; with_reducible exact H) | (have H2_ := (Option.bind_some _ _).symm.trans H; rw [hy307]; with_reducible exact H2_) | (have H2_ := (Option.bind_some _ _).symm.trans H; with_reducible exact H2_) | with_reducible exact H | (rw [hy307]; exact H) | exact H
           have Ny307 := zA hy307
           clear hy307
           have H' := zA H
           clear H
           have q21 : (ji10 : Int) ≤ ((t299.length : Int) : Int) := of_decide_eq_true (by first | (with_reducible assumption) | assumption)
           obtain ⟨i021, hi021, _, hsz21, _⟩ := info_parts info40
           have hcut21 := cut_from (P := Try.prog) 85 40 .i64 Try.underlying85 hi021 1 hsz21 Ao8 t299.length co8 ji10 (of_decide_eq_true (by first | (with_reducible assumption) | assumption)) q21
           have hr21 := Kd.Q_drop (k := (ji10 : Int).toNat) HO_1.out (by omega)
           obtain ⟨A21, hA21⟩ : ∃ A1, A1 = (if co8 = (ji10 : Int).toNat then Ao8 else (Ao8 : Option Addr).map (·.add ((ji10 : Int).toNat * 1))) := ⟨_, rfl⟩
           obtain ⟨c21, hc21⟩ : ∃ c1, c1 = co8 - (ji10 : Int).toNat := ⟨_, rfl⟩
           have hy21 : y307.length = t299.length - (ji10 : Int).toNat := (by rw [Ny307.out, List.length_drop])
           rw [← Ny307.out] at hr21
           rw [← hy21, ← hA21, ← hc21] at hcut21
           replace hr21 : Kd.Q (Kd.int .u32) 40 wr w.heap.size (fun _ => True) (.slice A21 y307.length c21) y307 := (by rw [hA21, hc21, hy21]; exact hr21)
           have HE21 : Aside0 ((Value.slice A21 y307.length c21).ownBlock = (.slice Ao8 t299.length co8 : Value).ownBlock) := ⟨by rw [hA21]; split <;> (cases (Ao8 : Option Addr) <;> first | rfl | (simp only [Option.map_some, Value.ownBlock]; unfold Addr.add; split <;> rfl))⟩
           clear hy21 hi021 hsz21 HO_1 hA21 hc21
           have HO309 := zA hr21
           clear hr21
           replace q21 := eq_true q21
           go_wp2
           go_meet
           case rel => exact ⟨_, (y307), (wrap64 (a2 + (wrap64 (32 * ji10)))), (x3_1), (by first | rfl | (simp; done) | (simp only [← hji10] <;> (first | rfl | simp)) | (simp [*]; done)), (by first | rfl | (simp; done) | (simp [*]; done)), H', ⟨by have := HK1.out; first | omega | exact Nat.le_refl _⟩, ⟨by (with_reducible repeat (first | apply Kd.Q_alloc | apply Kd.Q_drewN | apply Kd.Q_drew)); exact HO309.out⟩, ⟨by repeat (first | (with_reducible first | exact HB.out | apply zaq | apply zbq | apply zcq) | exact HB.out)⟩⟩
          ·
           rw [if_neg c20] at H
           exact absurd H (by simp)
         ·
          rw [if_neg c19] at H
          exact absurd H (by simp)
        ·
         rw [if_neg c18] at H
         have c18b0 : decide (a2 < 4611686018427387904) = false := decide_eq_false c18
         clear c18
         by_cases c22 : 0 ≤ ji10
         ·
          rw [if_pos c22] at H
          have c22b0 := eq_true c22
          have c22b1 : decide (0 ≤ ji10) = true := decide_eq_true c22
          clear c22
          by_cases c23 : ji10 ≤ (t299.length : Int)
          ·
           rw [if_pos c23] at H
           have c23b0 := eq_true c23
           have c23b1 : decide (ji10 ≤ (t299.length : Int)) = true := decide_eq_true c23
           clear c23
           obtain ⟨y310, hy310⟩ : ∃ y_ : List Int, y_ = (t299.drop (ji10 : Int).toNat) := ⟨_, rfl⟩
           replace H : (float_Round.j1 k1 a0 y310 a2 x3_1) = some r := by first | (rw [hy310]; with_reducible exact H) | (have H2_ := (Option.bind_some _ _).symm.trans H; rw [hy310]; with_reducible exact H2_) | (have H2_ := (Option.bind_some _ _).symm.trans H; with_reducible exact H2_) | with_reducible exact H | (rw [hy310]; exact H) | exact H
           have Ny310 := zA hy310
           clear hy310
           have H' := zA H
           clear H
           have q24 : (ji10 : Int) ≤ ((t299.length : Int) : Int) := of_decide_eq_true (by first | (with_reducible assumption) | assumption)
           obtain ⟨i024, hi024, _, hsz24, _⟩ := info_parts info40
           have hcut24 := cut_from (P := Try.prog) 85 40 .i64 Try.underlying85 hi024 1 hsz24 Ao8 t299.length co8 ji10 (of_decide_eq_true (by first | (with_reducible assumption) | assumption)) q24
           have hr24 := Kd.Q_drop (k := (ji10 : Int).toNat) HO_1.out (by omega)
           obtain ⟨A24, hA24⟩ : ∃ A1, A1 = (if co8 = (ji10 : Int).toNat then Ao8 else (Ao8 : Option Addr).map (·.add ((ji10 : Int).toNat * 1))) := ⟨_, rfl⟩
           obtain ⟨c24, hc24⟩ : ∃ c1, c1 = co8 - (ji10 : Int).toNat := ⟨_, rfl⟩
           have hy24 : y310.length = t299.length - (ji10 : Int).toNat := (by rw [Ny310.out, List.length_drop])
           rw [← Ny310.out] at hr24
           rw [← hy24, ← hA24, ← hc24] at hcut24
           replace hr24 : Kd.Q (Kd.int .u32) 40 wr w.heap.size (fun _ => True) (.slice A24 y310.length c24) y310 := (by rw [hA24, hc24, hy24]; exact hr24)
           have HE24 : Aside0 ((Value.slice A24 y310.length c24).ownBlock = (.slice Ao8 t299.length co8 : Value).ownBlock) := ⟨by rw [hA24]; split <;> (cases (Ao8 : Option Addr) <;> first | rfl | (simp only [Option.map_some, Value.ownBlock]; unfold Addr.add; split <;> rfl))⟩
           clear hy24 hi024 hsz24 HO_1 hA24 hc24
           have HO312 := zA hr24
           clear hr24
           replace q24 := eq_true q24
           go_wp2
           go_meet
           case rel => exact ⟨_, (y310), (a2), (x3_1), (by first | rfl | (simp; done) | (simp [*]; done)), (by first | rfl | (simp; done) | (simp [*]; done)), H', ⟨by have := HK1.out; first | omega | exact Nat.le_refl _⟩, ⟨by (with_reducible repeat (first | apply Kd.Q_alloc | apply Kd.Q_drewN | apply Kd.Q_drew)); exact HO312.out⟩, ⟨by repeat (first | (with_reducible first | exact HB.out | apply zaq | apply zbq | apply zcq) | exact HB.out)⟩⟩
          ·
           rw [if_neg c23] at H
           exact absurd H (by simp)
         ·
          rw [if_neg c22] at H
          exact absurd H (by simp)
    ·
     rw [if_neg c12] at H
     exact absurd H (by simp)
   ·
    rw [if_neg c11] at H
    exact absurd H (by simp)
  ·
   rw [if_neg c9] at H
   have c9b0 : decide (0 < (wrap64 ((t299.length : Int) - 4))) = false := decide_eq_false c9
   clear c9
   (first | rw [c9b0] | (simp only [i64_w, i32_w]; rw [c9b0]) | skip)
   have H' := zA H
   clear H
   go_wp2
   go_meet
   case rel => exact ⟨_, (t299), (a2), (a3), (by first | rfl | (simp; done) | (simp [*]; done)), (by first | rfl | (simp; done) | (simp [*]; done)), H', ⟨by first | omega | exact Nat.le_refl _⟩, ⟨Kd.Q_of_R (by (with_reducible repeat (first | apply Kd.R_alloc | apply Kd.R_drewN | apply Kd.R_drew)); exact HO301.out)⟩, ⟨by repeat (first | (with_reducible first | exact HB.out | apply zaq | apply zbq | apply zcq) | exact HB.out)⟩⟩
 case rest =>
  clear HC6
  try clear c1
  try clear q1
  try clear c2
  try clear p2
  try clear q2
  try clear c3
  try clear p3
  try clear q3
  try clear hx3
  try clear p6
  try clear c8
  try clear c9
  try clear c9b0
  try clear c11
  try clear c11b0
  try clear c11b1
  try clear c12
  try clear c12b0
  try clear c12b1
  try clear q13
  try clear c14
  try clear c14b0
  try clear c15
  try clear c15b0
  try clear c16
  try clear c16b0
  try clear c17
  try clear c18
  try clear c18b0
  try clear c19
  try clear c19b0
  try clear c19b1
  try clear c20
  try clear c20b0
  try clear c20b1
  try clear c21
  try clear q21
  try clear c22
  try clear c22b0
  try clear c22b1
  try clear c23
  try clear c23b0
  try clear c23b1
  try clear c24
  try clear q24
  try clear hx306_0
  try clear p2
  try clear p306
  try clear p6
  try clear q1
  try clear q13
  try clear q21
  try clear q24
  try clear q306
  obtain ⟨kq, x1_5, x2_5, x3_5, rfl, rfl, HA, HJ5, HO_1, HB⟩ := hcut
  cases kq with
  | zero => exact absurd HA.out (by simp [float_Round.j1])
  | succ kj5 =>
   have H := HA.out
   clear HA
   simp only [float_Round.j1] at H
   have H' := zA H
   clear H
   go_wp2_with (first | ((with_reducible refine zpq (N := 12) rfl ?_); refine zqq ?hg (N := 12) ?hd (cs := #[.int .u64 0, .int .u64 0]) (t := 24) ?hr ?_; (case hd => rfl); (case hg => rfl); (case hr => first | (go_simp; done) | (go_simp; rfl)); intro gb313 hg w25 hbox hb; have n0_ := zA (Kd.Q_below (by (with_reducible repeat (first | apply Kd.Q_alloc | apply Kd.Q_drewN | apply Kd.Q_drew)); exact HO_1.out) hb); have n1_ := zA (zeq (by repeat (first | (with_reducible first | exact HB.out | apply zaq | apply zbq | apply zcq) | exact HB.out)) hb); have n2_ := zA (hbox); have n3_ := zA ((by rw [hg]; exact (zfq (by repeat (first | (with_reducible first | exact HB.out | apply zaq | apply zbq | apply zcq) | exact HB.out))) : w.heap.size ≤ gb313)); have n4_ := zA ((by rw [hg]; exact (zfq (by repeat (first | (with_reducible first | exact HB.out | apply zaq | apply zbq | apply zcq) | exact HB.out))) : w.heap.size ≤ gb313)); clear HO_1; clear HB; have HO_1 := n0_; have HB := n1_; have BK313 := n2_; have GW313 := n3_; have GE313 := n4_; clear n0_ n1_ n2_ n3_ n4_; clear hb hbox hg; obtain ⟨Ao26, co26, eo26, _⟩ := Kd.Q_slice HO_1.out; subst eo26))
   go_loopg [46] kj5 (fun kq v46 w' => ∃ (x46_2 : Int) (x314000_2 : Int) (x314001_2 : Int), v46 = .int .i64 x46_2 ∧ Aside0 (float_Round.l1 kq a0 x1_5 x2_5 x3_5 (x1_5.length : Int) x46_2 x314000_2 x314001_2 = some r) ∧ Aside0 (kq ≤ kj5) ∧ Aside0 (Kd.Q (Kd.int .u32) 40 w' w.heap.size (fun _ => True) (.slice Ao26 x1_5.length co26) x1_5) ∧ Aside0 (w'.heap[gb313]? = some (.cells #[.int .u64 x314000_2, .int .u64 x314001_2] 24 (0, 0))) ∧ Aside0 (Below w.heap.size w w'))
   case atStart => exact ⟨(0), (0), (0), (by first | rfl | (simp; done) | (simp [*]; done)), H', ⟨Nat.le_refl _⟩, ⟨by (with_reducible repeat (first | apply Kd.Q_alloc | apply Kd.Q_drewN | apply Kd.Q_drew)); exact HO_1.out⟩, ⟨by (with_reducible repeat (first | refine zgq ?_ _ | refine zhq ?_ | refine ziq ?_ _)); exact BK313.out⟩, ⟨by repeat (first | (with_reducible first | exact HB.out | apply zaq | apply zbq | apply zcq | refine zdq ?_ GE313.out) | exact HB.out)⟩⟩
   case round =>
    clear H'
    try clear c1
    try clear q1
    try clear c2
    try clear p2
    try clear q2
    try clear c3
    try clear p3
    try clear q3
    try clear hx3
    try clear p6
    try clear c8
    try clear c9
    try clear c9b0
    try clear c11
    try clear c11b0
    try clear c11b1
    try clear c12
    try clear c12b0
    try clear c12b1
    try clear q13
    try clear c14
    try clear c14b0
    try clear c15
    try clear c15b0
    try clear c16
    try clear c16b0
    try clear c17
    try clear c18
    try clear c18b0
    try clear c19
    try clear c19b0
    try clear c19b1
    try clear c20
    try clear c20b0
    try clear c20b1
    try clear c21
    try clear q21
    try clear c22
    try clear c22b0
    try clear c22b1
    try clear c23
    try clear c23b0
    try clear c23b1
    try clear c24
    try clear q24
    try clear hx306_0
    try clear p2
    try clear p3
    try clear p306
    try clear p6
    try clear q1
    try clear q13
    try clear q2
    try clear q21
    try clear q24
    try clear q3
    try clear q306
    obtain ⟨x46_2, x314000_2, x314001_2, rfl, HA, HK2, HO_1, BK313, HB⟩ := hrel
    cases gk with
    | zero => exact absurd HA.out (by simp [float_Round.l1])
    | succ k2 =>
     have H := HA.out
     clear HA
     simp only [float_Round.l1] at H
     by_cases c27 : x46_2 < (x1_5.length : Int)
     ·
      rw [if_pos c27] at H
      have c27b0 : decide (x46_2 < (x1_5.length : Int)) = true := decide_eq_true c27
      clear c27
      replace H := Option.bind_eq_some_iff.mp H
      obtain ⟨⟨t314, t315⟩, A280, H⟩ := H
      replace H : (if 0 ≤ (wrap64 ((wrap64 ((x1_5.length : Int) - 1)) - x46_2)) then (if (wrap64 ((wrap64 ((x1_5.length : Int) - 1)) - x46_2)) < (x1_5.length : Int) then (float_Round.l1 k2 a0 x1_5 x2_5 x3_5 (x1_5.length : Int) (wrap64 (x46_2 + 1)) t314 (Go.bits .or .u64 t315 (IntKind.u64.wrap (rd x1_5 (wrap64 ((wrap64 ((x1_5.length : Int) - 1)) - x46_2)))))) else (none)) else (none)) = some r := H
      have A28 := zA A280
      clear A280
      obtain ⟨ji29, hji29⟩ : ∃ j_ : Int, (wrap64 ((wrap64 ((x1_5.length : Int) - 1)) - x46_2)) = j_ := ⟨_, rfl⟩
      replace H : (if 0 ≤ (ji29) then (if (ji29) < (x1_5.length : Int) then (float_Round.l1 k2 a0 x1_5 x2_5 x3_5 (x1_5.length : Int) (wrap64 (x46_2 + 1)) t314 (Go.bits .or .u64 t315 (IntKind.u64.wrap (rd x1_5 (ji29))))) else (none)) else (none)) = some r := by first | (rw [hji29] at H; exact H) | (simp only [hji29] at H ⊢; exact H)
      (try rw [hji29] at A28)
      have hji29w : (IntKind.i64.wrap ((wrap64 ((x1_5.length : Int) - 1)) - x46_2)) = ji29 := (i64_w _).trans hji29
      by_cases c30 : 0 ≤ (ji29)
      ·
       rw [if_pos c30] at H
       have c30b0 : decide (0 ≤ (ji29)) = true := decide_eq_true c30
       clear c30
       by_cases c31 : (ji29) < (x1_5.length : Int)
       ·
        rw [if_pos c31] at H
        have c31b0 : decide ((ji29) < (x1_5.length : Int)) = true := decide_eq_true c31
        clear c31
        have H' := zA H
        clear H
        have hcz32_0 : wr.cell? ⟨gb313, 0, none⟩ = some (.int .u64 x314000_2) := (zmq BK313.out 0).trans rfl
        have hcz32_1 : wr.cell? ⟨gb313, 1, none⟩ = some (.int .u64 x314001_2) := (zmq BK313.out 1).trans rfl
        have hfz32_0 := znq BK313.out 0
        have hfz32_1 := znq BK313.out 1
        try go_wp2_with (first | ((with_reducible refine zoq (f := 53) rfl ?_); refine goesL_ (some 50) rfl rfl Try.func53 (by kernel_rfl) rfl #[.agg #[.int .u64 x314000_2, .int .u64 x314001_2], .int .i64 32] rfl (by (try simp only [List.map_toArray, List.map_cons, List.map_nil]); first | done | rfl | (simp only [List.length_drop, List.length_take]; rfl)) ?_; (with_reducible refine (wide_Shl.calls x314000_2 x314001_2 32 t314 t315 _ A28.out).mono ?_); rintro e w33 ⟨rfl, hb⟩; refine ⟨_, rfl, ?_⟩; have n0_ := zA (Kd.Q_below (by (with_reducible repeat (first | apply Kd.Q_alloc | apply Kd.Q_drewN | apply Kd.Q_drew)); exact HO_1.out) hb); have n1_ := zA (zlq (g := gb313) (o := .cells #[.int .u64 x314000_2, .int .u64 x314001_2] 24 (0, 0)) (by (with_reducible repeat (first | refine zgq ?_ _ | refine zhq ?_ | refine ziq ?_ _)); exact BK313.out) hb); have n2_ := zA (zeq (by repeat (first | (with_reducible first | exact HB.out | apply zaq | apply zbq | apply zcq | refine zdq ?_ GE313.out) | exact HB.out)) hb); clear HO_1; clear BK313; clear HB; have HO_1 := n0_; have BK313 := n1_; have HB := n2_; clear n0_ n1_ n2_; (try clear hb); (try clear hb2); (try clear hk); (try clear hi); have hcz34_0 : w33.cell? ⟨gb313, 0, none⟩ = some (.int .u64 x314000_2) := (zmq BK313.out 0).trans rfl; have hcz34_1 : w33.cell? ⟨gb313, 1, none⟩ = some (.int .u64 x314001_2) := (zmq BK313.out 1).trans rfl; have hfz34_0 := znq BK313.out 0; have hfz34_1 := znq BK313.out 1))
        have n0_ : Aside0 (Kd.Q (Kd.int .u32) 40 ((w33.setCell ⟨gb313, 0, none⟩ (.int .u64 t314)).setCell ⟨gb313, 1, none⟩ (.int .u64 t315)) w.heap.size (fun _ => True) (.slice Ao26 x1_5.length co26) x1_5) := ⟨by (with_reducible repeat (first | apply Kd.Q_alloc | apply Kd.Q_drewN | apply Kd.Q_drew)); exact Kd.Q_mono (Kd.Q_far (p := ⟨gb313, 1, none⟩) (Kd.Q_far (p := ⟨gb313, 0, none⟩) (Kd.Q_types HO_1.out BK313.out (by decide)) (fun _ hk => hk.2) (.int .u64 t314)) (fun _ hk => hk.2) (.int .u64 t315)) (fun _ hk => trivial)⟩
        have n1_ : Aside0 (((w33.setCell ⟨gb313, 0, none⟩ (.int .u64 t314)).setCell ⟨gb313, 1, none⟩ (.int .u64 t315)).heap[gb313]? = some (.cells #[.int .u64 t314, .int .u64 t315] 24 (0, 0))) := ⟨by (with_reducible repeat (first | refine zgq ?_ _ | refine zhq ?_ | refine ziq ?_ _)); refine zkq (cs := #[.int .u64 t314, .int .u64 x314001_2]) ?_ 1 _ rfl; (with_reducible repeat (first | refine zgq ?_ _ | refine zhq ?_ | refine ziq ?_ _)); refine zkq (cs := #[.int .u64 x314000_2, .int .u64 x314001_2]) ?_ 0 _ rfl; (with_reducible repeat (first | refine zgq ?_ _ | refine zhq ?_ | refine ziq ?_ _)); exact BK313.out⟩
        have n2_ : Aside0 (Below w.heap.size w ((w33.setCell ⟨gb313, 0, none⟩ (.int .u64 t314)).setCell ⟨gb313, 1, none⟩ (.int .u64 t315))) := ⟨by repeat (first | (with_reducible first | exact HB.out | apply zaq | apply zbq | apply zcq | refine zdq ?_ GE313.out) | exact HB.out)⟩
        (try clear HO_1)
        (try clear BK313)
        (try clear HB)
        generalize ((w33.setCell ⟨gb313, 0, none⟩ (.int .u64 t314)).setCell ⟨gb313, 1, none⟩ (.int .u64 t315)) = w35 at n0_ n1_ n2_ ⊢
        have HO_1 := n0_
        have BK313 := n1_
        have HB := n2_
        clear n0_ n1_ n2_
        have n0_ := zA (Kd.Q_drew HO_1.out)
        have n1_ := zA (zhq BK313.out)
        have n2_ := zA (zcq HB.out)
        clear HO_1
        clear BK313
        clear HB
        have HO_1 := n0_
        have BK313 := n1_
        have HB := n2_
        clear n0_ n1_ n2_
        have p316 : 0 ≤ ((ji29) : Int) := of_decide_eq_true (by first | (with_reducible assumption) | assumption)
        have q316 : (ji29) < (x1_5.length : Int) := of_decide_eq_true (by first | (with_reducible assumption) | assumption)
        obtain ⟨ad316, e316, hx316_0⟩ := Kd.at_int (Kd.Q_reads' HO_1.out).2.2 (ji29) p316 q316
        cases e316
        replace p316 := eq_true p316
        replace q316 := eq_true q316
        refine start_ (n := 14) (S := fun w' => w'.cell? ⟨gb313, 0, none⟩ = some (.int .u64 t314) ∧ w'.cell? ⟨gb313, 1, none⟩ = some (.int .u64 t315) ∧ w'.cell? (ad316.add ((ji29)).toNat) = some (.int .u32 (rd x1_5 (ji29)))) (ds := [13]) #[false, false, false, false, false, false, false, false, false, false, false, false, false, false] (by kernel_rfl) rfl rfl ⟨(zmq BK313.out 0).trans rfl, (zmq BK313.out 1).trans rfl, hx316_0⟩ (fun hHeld => ?_); refine with_tabW float_Round.tab17 float_Round.bits17 (fun HT_ HW_ => ?_)
        generalize w35.drew = w36 at HO_1 BK313 HB hx316_0 hHeld ⊢
        refine pure_ (i := 0) (N := some 51) (v := ?_) (a' := ?_) #[true, false, false, false, false, false, false, false, false, false, false, false, false, false] rfl rfl (any_of HT_.out (by kernel_rfl)) (fun _ _ _ h => h) (Or.inl ⟨by rfl, ?_⟩) ?_ ?_
        rotate_left
        ·
         intro w'
         go_simp
         with_reducible rfl
        rotate_left
        ·
         simp only [Act.put, List.setIfInBounds_toArray, List.set_cons_zero, List.set_cons_succ, i64_w, i32_w]
         rfl
        refine pure_ (i := 2) (N := some 53) (v := ?_) (a' := ?_) #[true, false, true, false, false, false, false, false, false, false, false, false, false, false] rfl rfl (any_of HT_.out (by kernel_rfl)) (fun _ _ _ h => h) (Or.inl ⟨by rfl, ?_⟩) ?_ ?_
        rotate_left
        ·
         intro w'
         go_simp
         with_reducible rfl
        rotate_left
        ·
         simp only [Act.put, List.setIfInBounds_toArray, List.set_cons_zero, List.set_cons_succ, i64_w, i32_w]
         rfl
        refine pure_ (i := 3) (N := some 54) (v := ?_) (a' := ?_) #[true, false, true, true, false, false, false, false, false, false, false, false, false, false] rfl rfl (any_of HT_.out (by kernel_rfl)) (fun _ _ _ h => h) (Or.inl ⟨by rfl, ?_⟩) ?_ ?_
        rotate_left
        ·
         intro w'
         go_simp
         with_reducible rfl
        rotate_left
        ·
         simp only [Act.put, List.setIfInBounds_toArray, List.set_cons_zero, List.set_cons_succ, i64_w, i32_w]
         rfl
        refine pure_ (i := 4) (N := some 55) (v := ?_) (a' := ?_) #[true, false, true, true, true, false, false, false, false, false, false, false, false, false] rfl rfl (any_of HT_.out (by kernel_rfl)) (fun _ _ _ h => h) (Or.inl ⟨by rfl, ?_⟩) ?_ ?_
        rotate_left
        ·
         intro w'
         go_simp
         with_reducible rfl
        rotate_left
        ·
         simp only [Act.put, List.setIfInBounds_toArray, List.set_cons_zero, List.set_cons_succ, i64_w, i32_w]
         rfl
        refine pure_ (i := 5) (N := some 56) (v := ?_) (a' := ?_) #[true, false, true, true, true, true, false, false, false, false, false, false, false, false] rfl rfl (any_of HT_.out (by kernel_rfl)) (fun _ _ _ h => h) (Or.inl ⟨by rfl, ?_⟩) ?_ ?_
        rotate_left
        ·
         intro w'
         go_simp
         with_reducible rfl
        rotate_left
        ·
         simp only [Act.put, List.setIfInBounds_toArray, List.set_cons_zero, List.set_cons_succ, i64_w, i32_w]
         rfl
        refine pure_ (i := 6) (N := some 57) (v := ?_) (a' := ?_) #[true, false, true, true, true, true, true, false, false, false, false, false, false, false] rfl rfl (any_of HT_.out (by kernel_rfl)) (fun _ _ _ h => h) (Or.inl ⟨by rfl, ?_⟩) ?_ ?_
        rotate_left
        ·
         intro w'
         go_simp
         with_reducible rfl
        rotate_left
        ·
         simp only [Act.put, List.setIfInBounds_toArray, List.set_cons_zero, List.set_cons_succ, i64_w, i32_w]
         rfl
        refine pure_ (i := 7) (N := some 58) (v := ?_) (a' := ?_) #[true, false, true, true, true, true, true, true, false, false, false, false, false, false] rfl rfl (any_of HT_.out (by kernel_rfl)) (fun _ _ _ h => h) (Or.inl ⟨by rfl, ?_⟩) ?_ ?_
        rotate_left
        ·
         intro w'
         go_simp
         with_reducible rfl
        rotate_left
        ·
         simp only [Act.put, List.setIfInBounds_toArray, List.set_cons_zero, List.set_cons_succ, i64_w, i32_w]
         rfl
        refine pure_ (i := 8) (N := some 59) (v := ?_) (a' := ?_) #[true, false, true, true, true, true, true, true, true, false, false, false, false, false] rfl rfl (any_of HT_.out (by kernel_rfl)) (fun _ _ _ h => h) (Or.inl ⟨by rfl, ?_⟩) ?_ ?_
        rotate_left
        ·
         intro w'
         go_simp
         with_reducible rfl
        rotate_left
        ·
         simp only [Act.put, List.setIfInBounds_toArray, List.set_cons_zero, List.set_cons_succ, i64_w, i32_w]
         rfl
        refine take_ (i := 1) (N := some 52) (v := ?_) (a' := ?_) #[true, true, true, true, true, true, true, true, true, false, false, false, false, false] rfl rfl (take_ofW HT_.out HW_.out (by kernel_rfl)) (fun _ _ _ h => h) (Or.inl ⟨by rfl, ?_⟩) hHeld ?_ ?_
        rotate_left
        ·
         rintro w' ⟨s0, s1, s2⟩
         go_simp
         with_reducible rfl
        rotate_left
        ·
         simp only [Act.put, List.setIfInBounds_toArray, List.set_cons_zero, List.set_cons_succ, i64_w, i32_w]
         rfl
        refine take_ (i := 9) (N := some 60) (v := ?_) (a' := ?_) #[true, true, true, true, true, true, true, true, true, true, false, false, false, false] rfl rfl (take_ofW HT_.out HW_.out (by kernel_rfl)) (fun _ _ _ h => h) (Or.inl ⟨by rfl, ?_⟩) hHeld ?_ ?_
        rotate_left
        ·
         rintro w' ⟨s0, s1, s2⟩
         go_simp
         with_reducible rfl
        rotate_left
        ·
         simp only [Act.put, List.setIfInBounds_toArray, List.set_cons_zero, List.set_cons_succ, i64_w, i32_w]
         rfl
        refine pure_ (i := 10) (N := some 61) (v := ?_) (a' := ?_) #[true, true, true, true, true, true, true, true, true, true, true, false, false, false] rfl rfl (any_of HT_.out (by kernel_rfl)) (fun _ _ _ h => h) (Or.inl ⟨by rfl, ?_⟩) ?_ ?_
        rotate_left
        ·
         intro w'
         go_simp
         with_reducible rfl
        rotate_left
        ·
         simp only [Act.put, List.setIfInBounds_toArray, List.set_cons_zero, List.set_cons_succ, i64_w, i32_w]
         rfl
        refine pure_ (i := 11) (N := some 62) (v := ?_) (a' := ?_) #[true, true, true, true, true, true, true, true, true, true, true, true, false, false] rfl rfl (any_of HT_.out (by kernel_rfl)) (fun _ _ _ h => h) (Or.inl ⟨by rfl, ?_⟩) ?_ ?_
        rotate_left
        ·
         intro w'
         go_simp
         with_reducible rfl
        rotate_left
        ·
         simp only [Act.put, List.setIfInBounds_toArray, List.set_cons_zero, List.set_cons_succ, i64_w, i32_w]
         rfl
        refine pure_ (i := 12) (N := some 63) (v := ?_) (a' := ?_) #[true, true, true, true, true, true, true, true, true, true, true, true, true, false] rfl rfl (any_of HT_.out (by kernel_rfl)) (fun _ _ _ h => h) (Or.inl ⟨by rfl, ?_⟩) ?_ ?_
        rotate_left
        ·
         intro w'
         go_simp
         with_reducible rfl
        rotate_left
        ·
         simp only [Act.put, List.setIfInBounds_toArray, List.set_cons_zero, List.set_cons_succ, i64_w, i32_w]
         rfl
        refine last_ (i := 13) (N := none) #[true, true, true, true, true, true, true, true, true, true, true, true, true, true] rfl rfl (one_of HT_.out (by kernel_rfl)) (by decide) (fun K hK => ?_)
        have hs37 : w36.cell? ⟨gb313, 1, none⟩ = some (.int .u64 t315) := (zmq BK313.out 1).trans rfl
        have hfs37 := znq BK313.out 1
        refine skip_ (w1 := ?_) (by rfl) rfl ?_ ?_
        rotate_left
        ·
         go_simp
         rfl
        refine hK.out _ _ ?_
        clear hK K
        refine done_ (done_of HT_.out (by kernel_rfl)) ?_
        try go_wp2
        go_roundg k2
        case measure => have := HJ5.out; have := HK2.out; omega
        case rel => exact ⟨(wrap64 (x46_2 + 1)), (t314), (Go.bits .or .u64 t315 (IntKind.u64.wrap (rd x1_5 (ji29)))), (by first | rfl | (simp; done) | (simp [*]; done)), H', ⟨by have := HJ5.out; have := HK2.out; omega⟩, ⟨by (with_reducible repeat (first | apply Kd.Q_alloc | apply Kd.Q_drewN | apply Kd.Q_drew)); exact Kd.Q_mono (Kd.Q_far (p := ⟨gb313, 1, none⟩) (Kd.Q_types HO_1.out BK313.out (by decide)) (fun _ hk => hk.2) (.int .u64 (Go.bits .or .u64 t315 (IntKind.u64.wrap (rd x1_5 (ji29)))))) (fun _ hk => trivial)⟩, ⟨by (with_reducible repeat (first | refine zgq ?_ _ | refine zhq ?_ | refine ziq ?_ _)); refine zkq (cs := #[.int .u64 t314, .int .u64 t315]) ?_ 1 _ rfl; (with_reducible repeat (first | refine zgq ?_ _ | refine zhq ?_ | refine ziq ?_ _)); exact BK313.out⟩, ⟨by repeat (first | (with_reducible first | exact HB.out | apply zaq | apply zbq | apply zcq | refine zdq ?_ GE313.out) | exact HB.out)⟩⟩
       ·
        rw [if_neg c31] at H
        exact absurd H (by simp)
      ·
       rw [if_neg c30] at H
       exact absurd H (by simp)
     ·
      rw [if_neg c27] at H
      have c27b0 : decide (x46_2 < (x1_5.length : Int)) = false := decide_eq_false c27
      clear c27
      replace H := Option.bind_eq_some_iff.mp H
      obtain ⟨t317, A380, H⟩ := H
      replace H : (some t317) = some r := H
      have A38 := zA A380
      clear A380
      obtain rfl := Option.some.inj H
      have hcz39_0 : wr.cell? ⟨gb313, 0, none⟩ = some (.int .u64 x314000_2) := (zmq BK313.out 0).trans rfl
      have hcz39_1 : wr.cell? ⟨gb313, 1, none⟩ = some (.int .u64 x314001_2) := (zmq BK313.out 1).trans rfl
      have hfz39_0 := znq BK313.out 0
      have hfz39_1 := znq BK313.out 1
      go_wp2_with (first | ((with_reducible refine zoq (f := 20) rfl ?_); refine goesL_ (some 69) rfl rfl Try.func20 (by kernel_rfl) rfl #[.bool a0, .agg #[.int .u64 x314000_2, .int .u64 x314001_2], .int .i64 x2_5, .bool x3_5] rfl (by (try simp only [List.map_toArray, List.map_cons, List.map_nil]); first | done | rfl | (simp only [List.length_drop, List.length_take]; rfl)) ?_; (with_reducible refine (float_Join.calls k2 a0 x314000_2 x314001_2 x2_5 x3_5 t317 _ A38.out).mono ?_); rintro e w40 ⟨rfl, hb⟩; refine ⟨_, rfl, ?_⟩; have n0_ := zA (Kd.Q_below (by (with_reducible repeat (first | apply Kd.Q_alloc | apply Kd.Q_drewN | apply Kd.Q_drew)); exact HO_1.out) hb); have n1_ := zA (zlq (g := gb313) (o := .cells #[.int .u64 x314000_2, .int .u64 x314001_2] 24 (0, 0)) (by (with_reducible repeat (first | refine zgq ?_ _ | refine zhq ?_ | refine ziq ?_ _)); exact BK313.out) hb); have n2_ := zA (zeq (by repeat (first | (with_reducible first | exact HB.out | apply zaq | apply zbq | apply zcq | refine zdq ?_ GE313.out) | exact HB.out)) hb); clear HO_1; clear BK313; clear HB; have HO_1 := n0_; have BK313 := n1_; have HB := n2_; clear n0_ n1_ n2_; (try clear hb); (try clear hb2); (try clear hk); (try clear hi)))
      go_ret
      exact ⟨by first | rfl | (simp [errW_none, errW_some] <;> rfl) | (simp [*, errW_none, errW_some] <;> rfl), by repeat (first | (with_reducible first | exact HB.out | apply zaq | apply zbq | apply zcq | refine zdq ?_ GE313.out) | exact HB.out)⟩

end Go.Proofs.Ytbejjlecpcphoaa.P
