-- Written by a program of this session's (a turned print), not by hand.
import Derived.Test.YtbejjlecpcphoaaPx0
import Derived.Test.YtbejjlecpcphoaaPx11
namespace Go.Proofs.Ytbejjlecpcphoaa.P
open Go.RowKit Go.Proofs.YtbejjlecpcphoaaW.PrintWords Go.Proofs.YtbejjlecpcphoaaW.PrintLast Go.Proofs.YtbejjlecpcphoaaW.PrintMore
attribute [local go_sem] max2_int min2_int max_two min_two max_three min_three max_four min_four   -- for this text's walks alone
set_option linter.unusedVariables false
set_option linter.unusedSimpArgs false

/-! ### tabardref1_Big: function 104 -/
def tabardref1_Big.f (k : Nat) (l0 : List Int) : Option (Bool) := (tabardref1_Trim.f k l0).bind fun t551 => (some (decide ((t551.length : Int) > 256)))
theorem tabardref1_Big.mono : ∀ a0 k, LeO (tabardref1_Big.f k a0) (tabardref1_Big.f (k + 1) a0) := by
 intro a0 k
 unfold tabardref1_Big.f
 repeat' first
   | (with_reducible exact tabardref1_Trim.mono _ _)
   | (with_reducible exact LeO.refl _)
   | (with_reducible exact LeO.none _)
   | (with_reducible refine LeO.ite ?_ ?_)
   | (with_reducible refine LeO.bind ?_ (fun _ => ?_))
   | exact tabardref1_Trim.mono _ _
   | exact LeO.none _
   | refine LeO.ite ?_ ?_
   | refine LeO.bind ?_ (fun _ => ?_)
set_option maxHeartbeats 8000000 in
set_option maxRecDepth 100000 in
theorem tabardref1_Big.calls (k : Nat) (A0 : Option Addr) (c0 : Nat) (l0 : List Int) (r : Bool) (w : World) (hr0 : Kd.C (Kd.int .u32) w A0 l0.length l0) (hc0 : l0.length ≤ c0) (h : tabardref1_Big.f k l0 = some r) :
  Calls Try.prog 104 #[.slice A0 l0.length c0] w fun e w' => e = .returned (.bool r) ∧ Below w.heap.size w w' := by
 have HR0 := zA hr0
 have HC0 := zA hc0
 clear hr0 hc0
 have HB := zA (Below.refl w.heap.size w)
 have H : ((tabardref1_Trim.f k l0).bind fun t551 => (some (decide ((t551.length : Int) > 256)))) = some r := h
 clear h
 replace H := Option.bind_eq_some_iff.mp H
 obtain ⟨t551, A20, H⟩ := H
 replace H : (some (decide ((t551.length : Int) > 256))) = some r := H
 have A2 := zA A20
 clear A20
 obtain rfl := Option.some.inj H
 go_enter Try.func104, Try.ntmps104
 go_wp2_with (first | ((with_reducible refine zoq (f := 78) rfl ?_); refine goesL_ (some 4) rfl rfl Try.func78 (by kernel_rfl) rfl #[.slice A0 l0.length c0] rfl (by (try simp only [List.map_toArray, List.map_cons, List.map_nil]); first | done | rfl | (simp only [List.length_drop, List.length_take]; rfl)) ?_; (with_reducible refine (tabardref1_Trim.calls k _ _ l0 t551 _ ?side1 ?side2 A2.out).mono ?_); (case side1 => repeat (first | exact HR0.out | (with_reducible refine Kd.C_alloc ?_ _) | (with_reducible refine Kd.C_drewN ?_ _) | (with_reducible refine Kd.C_drew ?_))); (case side2 => exact HC0.out); rintro e w3 ⟨v552, rfl, ho0, hb⟩; refine ⟨_, rfl, ?_⟩; have n0_ := zA (Kd.R_lower ho0 (zfq (by repeat (first | (with_reducible first | exact HB.out | apply zaq | apply zbq | apply zcq) | exact HB.out)))); have n1_ := zA (zeq (by repeat (first | (with_reducible first | exact HB.out | apply zaq | apply zbq | apply zcq) | exact HB.out)) hb); clear HB; have HO553 := n0_; have HB := n1_; clear n0_ n1_; (try clear hb); (try clear hb2); (try clear hk); (try clear hi); (try clear ho0); obtain ⟨Ao4, co4, eo4⟩ := Kd.R_slice HO553.out; subst eo4))
 go_ret
 exact ⟨by first | rfl | (simp [errW_none, errW_some] <;> rfl) | (simp [*, errW_none, errW_some] <;> rfl), by repeat (first | (with_reducible first | exact HB.out | apply zaq | apply zbq | apply zcq) | exact HB.out)⟩

/-! ### tabardref1_Shr: function 88 -/
mutual
def tabardref1_Shr.l0 : Nat → Int → List Int → List Int → Bool → Int → Option (List Int × Bool × Int)
 | 0, _, _, _, _, _ => none
 | k + 1, x1, x7, x8, x9, x10 => if x10 < (wrap64 (32 * (x7.length : Int))) then ((tabardref1_Bit.f x7 x10).bind fun t564 => (if t564 = true then (tabardref1_Shr.j1 k x1 x7 x8 x9 x10 t564 (decide (x10 < x1))) else (tabardref1_Shr.j1 k x1 x7 x8 x9 x10 t564 false))) else ((tabardref1_Trim.f k x8).bind fun t561 => (some (t561, x9, 0)))
def tabardref1_Shr.j1 : Nat → Int → List Int → List Int → Bool → Int → Bool → Bool → Option (List Int × Bool × Int)
 | 0, _, _, _, _, _, _, _ => none
 | k + 1, x1, x7, x8, x9, x10, x11, x36 => if x36 = true then (if x11 = true then (if x10 ≥ x1 then (if 0 ≤ (wrap64 (Int.tdiv (wrap64 (x10 - x1)) 32)) then (if (wrap64 (Int.tdiv (wrap64 (x10 - x1)) 32)) < (x8.length : Int) then (if 0 ≤ (IntKind.u64.wrap (Int.tmod (wrap64 (x10 - x1)) 32)) then (tabardref1_Shr.l0 k x1 x7 (x8.set ((wrap64 (Int.tdiv (wrap64 (x10 - x1)) 32)) : Int).toNat (Go.bits .or .u32 (rd x8 (wrap64 (Int.tdiv (wrap64 (x10 - x1)) 32))) (shl .u32 1 (IntKind.u64.wrap (Int.tmod (wrap64 (x10 - x1)) 32))))) true (wrap64 (x10 + 1))) else (none)) else (none)) else (none)) else (tabardref1_Shr.l0 k x1 x7 x8 true (wrap64 (x10 + 1)))) else (tabardref1_Shr.l0 k x1 x7 x8 true (wrap64 (x10 + 1)))) else (if x11 = true then (if x10 ≥ x1 then (if 0 ≤ (wrap64 (Int.tdiv (wrap64 (x10 - x1)) 32)) then (if (wrap64 (Int.tdiv (wrap64 (x10 - x1)) 32)) < (x8.length : Int) then (if 0 ≤ (IntKind.u64.wrap (Int.tmod (wrap64 (x10 - x1)) 32)) then (tabardref1_Shr.l0 k x1 x7 (x8.set ((wrap64 (Int.tdiv (wrap64 (x10 - x1)) 32)) : Int).toNat (Go.bits .or .u32 (rd x8 (wrap64 (Int.tdiv (wrap64 (x10 - x1)) 32))) (shl .u32 1 (IntKind.u64.wrap (Int.tmod (wrap64 (x10 - x1)) 32))))) x9 (wrap64 (x10 + 1))) else (none)) else (none)) else (none)) else (tabardref1_Shr.l0 k x1 x7 x8 x9 (wrap64 (x10 + 1)))) else (tabardref1_Shr.l0 k x1 x7 x8 x9 (wrap64 (x10 + 1))))
end
def tabardref1_Shr.f (k : Nat) (l0 : List Int) (a1 : Int) : Option (List Int × Bool × Int) := if a1 < 0 then (some (([] : List Int), false, 1)) else ((tabardref1_Big.f k l0).bind fun t554 => (if t554 = true then (some (([] : List Int), false, 2)) else ((tabardref1_Trim.f k l0).bind fun t555 => (if 0 ≤ (t555.length : Int) then (if ((t555.length : Int) : Int).toNat ≤ 70368744177664 then (tabardref1_Shr.l0 k a1 t555 (List.replicate ((t555.length : Int) : Int).toNat 0) false 0) else (none)) else (none)))))
theorem tabardref1_Shr.mono_l : ∀ k, (∀ y0 y1 y2 y3 y4, LeO (tabardref1_Shr.l0 k y0 y1 y2 y3 y4) (tabardref1_Shr.l0 (k + 1) y0 y1 y2 y3 y4)) ∧ (∀ y0 y1 y2 y3 y4 y5 y6, LeO (tabardref1_Shr.j1 k y0 y1 y2 y3 y4 y5 y6) (tabardref1_Shr.j1 (k + 1) y0 y1 y2 y3 y4 y5 y6))
 | 0 => ⟨fun _ _ _ _ _ r h => by simp [tabardref1_Shr.l0] at h, fun _ _ _ _ _ _ _ r h => by simp [tabardref1_Shr.j1] at h⟩
 | k + 1 => by
  obtain ⟨ih0, ih1⟩ := tabardref1_Shr.mono_l k
  refine ⟨?_, ?_⟩
  ·
   intro y0 y1 y2 y3 y4
   unfold tabardref1_Shr.l0
   repeat' first
   | (with_reducible exact ih0 _ _ _ _ _)
   | (with_reducible exact ih1 _ _ _ _ _ _ _)
   | (with_reducible exact tabardref1_Big.mono _ _)
   | (with_reducible exact tabardref1_Trim.mono _ _)
   | (with_reducible exact LeO.refl _)
   | (with_reducible exact LeO.none _)
   | (with_reducible refine LeO.ite ?_ ?_)
   | (with_reducible refine LeO.bind ?_ (fun _ => ?_))
   | exact ih0 _ _ _ _ _
   | exact ih1 _ _ _ _ _ _ _
   | exact tabardref1_Big.mono _ _
   | exact tabardref1_Trim.mono _ _
   | exact LeO.none _
   | refine LeO.ite ?_ ?_
   | refine LeO.bind ?_ (fun _ => ?_)
  ·
   intro y0 y1 y2 y3 y4 y5 y6
   unfold tabardref1_Shr.j1
   repeat' first
   | (with_reducible exact ih0 _ _ _ _ _)
   | (with_reducible exact ih1 _ _ _ _ _ _ _)
   | (with_reducible exact tabardref1_Big.mono _ _)
   | (with_reducible exact tabardref1_Trim.mono _ _)
   | (with_reducible exact LeO.refl _)
   | (with_reducible exact LeO.none _)
   | (with_reducible refine LeO.ite ?_ ?_)
   | (with_reducible refine LeO.bind ?_ (fun _ => ?_))
   | exact ih0 _ _ _ _ _
   | exact ih1 _ _ _ _ _ _ _
   | exact tabardref1_Big.mono _ _
   | exact tabardref1_Trim.mono _ _
   | exact LeO.none _
   | refine LeO.ite ?_ ?_
   | refine LeO.bind ?_ (fun _ => ?_)
theorem tabardref1_Shr.mono : ∀ a0 a1 k, LeO (tabardref1_Shr.f k a0 a1) (tabardref1_Shr.f (k + 1) a0 a1) := by
 intro a0 a1 k
 obtain ⟨ih0, ih1⟩ := tabardref1_Shr.mono_l k
 unfold tabardref1_Shr.f
 repeat' first
   | (with_reducible exact ih0 _ _ _ _ _)
   | (with_reducible exact ih1 _ _ _ _ _ _ _)
   | (with_reducible exact tabardref1_Big.mono _ _)
   | (with_reducible exact tabardref1_Trim.mono _ _)
   | (with_reducible exact LeO.refl _)
   | (with_reducible exact LeO.none _)
   | (with_reducible refine LeO.ite ?_ ?_)
   | (with_reducible refine LeO.bind ?_ (fun _ => ?_))
   | exact ih0 _ _ _ _ _
   | exact ih1 _ _ _ _ _ _ _
   | exact tabardref1_Big.mono _ _
   | exact tabardref1_Trim.mono _ _
   | exact LeO.none _
   | refine LeO.ite ?_ ?_
   | refine LeO.bind ?_ (fun _ => ?_)
set_option maxHeartbeats 8000000 in
set_option maxRecDepth 100000 in
theorem tabardref1_Shr.calls (k : Nat) (A0 : Option Addr) (c0 : Nat) (l0 : List Int) (a1 : Int) (r1 : List Int) (r2 : Bool) (r3 : Int) (w : World) (hr0 : Kd.C (Kd.int .u32) w A0 l0.length l0) (hc0 : l0.length ≤ c0) (h : tabardref1_Shr.f k l0 a1 = some (r1, r2, r3)) :
  Calls Try.prog 88 #[.slice A0 l0.length c0, .int .i64 a1] w fun e w' => ∃ v0_ : Value, e = .returned (.tuple #[v0_, .bool r2, .int .i64 r3]) ∧ Kd.R (Kd.int .u32) 40 w' w.heap.size (fun _ => True) v0_ r1 ∧ Below w.heap.size w w' := by
 have HR0 := zA hr0
 have HC0 := zA hc0
 clear hr0 hc0
 have HB := zA (Below.refl w.heap.size w)
 have H : (if a1 < 0 then (some (([] : List Int), false, 1)) else ((tabardref1_Big.f k l0).bind fun t554 => (if t554 = true then (some (([] : List Int), false, 2)) else ((tabardref1_Trim.f k l0).bind fun t555 => (if 0 ≤ (t555.length : Int) then (if ((t555.length : Int) : Int).toNat ≤ 70368744177664 then (tabardref1_Shr.l0 k a1 t555 (List.replicate ((t555.length : Int) : Int).toNat 0) false 0) else (none)) else (none)))))) = some (r1, r2, r3) := h
 clear h
 by_cases c3 : a1 < 0
 ·
  rw [if_pos c3] at H
  have c3b0 : decide (a1 < 0) = true := decide_eq_true c3
  clear c3
  simp only [Option.some.injEq, Prod.mk.injEq] at H
  obtain ⟨rfl, rfl, rfl⟩ := H
  go_enter Try.func88, Try.ntmps88
  go_wp2
  go_ret3
  exact ⟨_, by first | rfl | (simp [errW_none, errW_some] <;> rfl) | (simp [*, errW_none, errW_some] <;> rfl), by first | exact Kd.R_nil _ _ _ _ _ | exact Kd.N_nil _ _ _ _ _ | exact Kd.V_nil _ _ _ _ _ | exact Kd.Q_nil _ _ _ _ _ | exact Kd.S_nil _ _ _ _ _, by repeat (first | (with_reducible first | exact HB.out | apply zaq | apply zbq | apply zcq) | exact HB.out)⟩
 ·
  rw [if_neg c3] at H
  have c3b0 : decide (a1 < 0) = false := decide_eq_false c3
  clear c3
  replace H := Option.bind_eq_some_iff.mp H
  obtain ⟨t554, A40, H⟩ := H
  replace H : (if t554 = true then (some (([] : List Int), false, 2)) else ((tabardref1_Trim.f k l0).bind fun t555 => (if 0 ≤ (t555.length : Int) then (if ((t555.length : Int) : Int).toNat ≤ 70368744177664 then (tabardref1_Shr.l0 k a1 t555 (List.replicate ((t555.length : Int) : Int).toNat 0) false 0) else (none)) else (none)))) = some (r1, r2, r3) := H
  have A4 := zA A40
  clear A40
  by_cases c5 : t554 = true
  ·
   subst c5
   have H1 : (some (([] : List Int), false, 2)) = some (r1, r2, r3) := by rw [if_pos rfl] at H; exact H
   clear H
   have H := H1
   clear H1
   simp only [Option.some.injEq, Prod.mk.injEq] at H
   obtain ⟨rfl, rfl, rfl⟩ := H
   go_enter Try.func88, Try.ntmps88
   go_wp2_with (first | ((with_reducible refine zoq (f := 104) rfl ?_); refine goesL_ (some 15) rfl rfl Try.func104 (by kernel_rfl) rfl #[.slice A0 l0.length c0] rfl (by (try simp only [List.map_toArray, List.map_cons, List.map_nil]); first | done | rfl | (simp only [List.length_drop, List.length_take]; rfl)) ?_; (with_reducible refine (tabardref1_Big.calls k _ _ l0 true _ ?side1 ?side2 A4.out).mono ?_); (case side1 => repeat (first | exact HR0.out | (with_reducible refine Kd.C_alloc ?_ _) | (with_reducible refine Kd.C_drewN ?_ _) | (with_reducible refine Kd.C_drew ?_))); (case side2 => exact HC0.out); rintro e w6 ⟨rfl, hb⟩; refine ⟨_, rfl, ?_⟩; have n0_ := zA (zeq (by repeat (first | (with_reducible first | exact HB.out | apply zaq | apply zbq | apply zcq) | exact HB.out)) hb); clear HB; have HB := n0_; clear n0_; (try clear hb); (try clear hb2); (try clear hk); (try clear hi)))
   go_ret3
   exact ⟨_, by first | rfl | (simp [errW_none, errW_some] <;> rfl) | (simp [*, errW_none, errW_some] <;> rfl), by first | exact Kd.R_nil _ _ _ _ _ | exact Kd.N_nil _ _ _ _ _ | exact Kd.V_nil _ _ _ _ _ | exact Kd.Q_nil _ _ _ _ _ | exact Kd.S_nil _ _ _ _ _, by repeat (first | (with_reducible first | exact HB.out | apply zaq | apply zbq | apply zcq) | exact HB.out)⟩
  ·
   replace c5 := Bool.eq_false_iff.mpr c5
   subst c5
   have H1 : ((tabardref1_Trim.f k l0).bind fun t555 => (if 0 ≤ (t555.length : Int) then (if ((t555.length : Int) : Int).toNat ≤ 70368744177664 then (tabardref1_Shr.l0 k a1 t555 (List.replicate ((t555.length : Int) : Int).toNat 0) false 0) else (none)) else (none))) = some (r1, r2, r3) := by rw [if_neg (show ¬ (false = true) by decide)] at H; exact H
   clear H
   have H := H1
   clear H1
   replace H := Option.bind_eq_some_iff.mp H
   obtain ⟨t555, A70, H⟩ := H
   replace H : (if 0 ≤ (t555.length : Int) then (if ((t555.length : Int) : Int).toNat ≤ 70368744177664 then (tabardref1_Shr.l0 k a1 t555 (List.replicate ((t555.length : Int) : Int).toNat 0) false 0) else (none)) else (none)) = some (r1, r2, r3) := H
   have A7 := zA A70
   clear A70
   by_cases c8 : 0 ≤ (t555.length : Int)
   ·
    rw [if_pos c8] at H
    have c8b0 := eq_true c8
    have c8b1 : decide (0 ≤ (t555.length : Int)) = true := decide_eq_true c8
    clear c8
    by_cases c9 : ((t555.length : Int) : Int).toNat ≤ 70368744177664
    ·
     rw [if_pos c9] at H
     have c9b0 := eq_true c9
     have c9b1 : decide (((t555.length : Int) : Int).toNat ≤ 70368744177664) = true := decide_eq_true c9
     clear c9
     obtain ⟨y558, hy558⟩ : ∃ y_ : List Int, y_ = (List.replicate ((t555.length : Int) : Int).toNat 0) := ⟨_, rfl⟩
     replace H : (tabardref1_Shr.l0 k a1 t555 y558 false 0) = some (r1, r2, r3) := by first | (rw [hy558]; with_reducible exact H) | (have H2_ := (Option.bind_some _ _).symm.trans H; rw [hy558]; with_reducible exact H2_) | (have H2_ := (Option.bind_some _ _).symm.trans H; with_reducible exact H2_) | with_reducible exact H | (rw [hy558]; exact H) | exact H
     have Ny558 := zA hy558
     clear hy558
     have H' := zA H
     clear H
     go_enter Try.func88, Try.ntmps88
     go_wp2_with (first | ((with_reducible refine zoq (f := 104) rfl ?_); refine goesL_ (some 15) rfl rfl Try.func104 (by kernel_rfl) rfl #[.slice A0 l0.length c0] rfl (by (try simp only [List.map_toArray, List.map_cons, List.map_nil]); first | done | rfl | (simp only [List.length_drop, List.length_take]; rfl)) ?_; (with_reducible refine (tabardref1_Big.calls k _ _ l0 false _ ?side1 ?side2 A4.out).mono ?_); (case side1 => repeat (first | exact HR0.out | (with_reducible refine Kd.C_alloc ?_ _) | (with_reducible refine Kd.C_drewN ?_ _) | (with_reducible refine Kd.C_drew ?_))); (case side2 => exact HC0.out); rintro e w10 ⟨rfl, hb⟩; refine ⟨_, rfl, ?_⟩; have n0_ := zA (zeq (by repeat (first | (with_reducible first | exact HB.out | apply zaq | apply zbq | apply zcq) | exact HB.out)) hb); clear HB; have HB := n0_; clear n0_; (try clear hb); (try clear hb2); (try clear hk); (try clear hi)) | ((with_reducible refine zoq (f := 78) rfl ?_); refine goesL_ (some 17) rfl rfl Try.func78 (by kernel_rfl) rfl #[.slice A0 l0.length c0] rfl (by (try simp only [List.map_toArray, List.map_cons, List.map_nil]); first | done | rfl | (simp only [List.length_drop, List.length_take]; rfl)) ?_; (with_reducible refine (tabardref1_Trim.calls k _ _ l0 t555 _ ?side1 ?side2 A7.out).mono ?_); (case side1 => repeat (first | exact (Kd.C_below HR0.out HB.out) | (with_reducible refine Kd.C_alloc ?_ _) | (with_reducible refine Kd.C_drewN ?_ _) | (with_reducible refine Kd.C_drew ?_))); (case side2 => exact HC0.out); rintro e w11 ⟨v556, rfl, ho0, hb⟩; refine ⟨_, rfl, ?_⟩; have n0_ := zA (Kd.R_lower ho0 (zfq (by repeat (first | (with_reducible first | exact HB.out | apply zaq | apply zbq | apply zcq) | exact HB.out)))); have n1_ := zA (zeq (by repeat (first | (with_reducible first | exact HB.out | apply zaq | apply zbq | apply zcq) | exact HB.out)) hb); clear HB; have HO557 := n0_; have HB := n1_; clear n0_ n1_; (try clear hb); (try clear hb2); (try clear hk); (try clear hi); (try clear ho0); obtain ⟨Ao12, co12, eo12⟩ := Kd.R_slice HO557.out; subst eo12) | ((with_reducible refine zpq (N := 20) rfl ?_); refine Kd.R_make (Kd.int .u32) _ 40 rfl (N := 20) rfl 28 _ _ rfl (t555.length : Int) rfl rfl Try.underlying28 (.int .u32 0) 4 info40 rfl (by decide) (by omega) 0 (ok := fun _ => True) (okp := fun _ => True) rfl (fun _ hk => hk) trivial (of_decide_eq_true (by first | (with_reducible assumption) | assumption)) (Nat.le_trans (Nat.mul_le_mul_right _ (of_decide_eq_true (by first | (with_reducible assumption) | assumption) : (t555.length : Int).toNat ≤ 70368744177664)) (by omega)) (Below.refl _ _) (Nat.le_refl _) ?_; intro v559 w13 ho14 hb hg_ hnew_; clear hg_ hnew_; (first | rw [← Ny558.out] at ho14 | (simp only [Int.reduceToNat] at ho14; rw [← Ny558.out] at ho14)); have n0_ := zA (Kd.R_elder' (by (with_reducible repeat (first | apply Kd.R_alloc | apply Kd.R_drewN | apply Kd.R_drew)); exact HO557.out) (Kd.R_base ho14) hb); have n1_ := zA (Kd.R_lower (Kd.R_new' ho14 (Kd.R_lt (by (with_reducible repeat (first | apply Kd.R_alloc | apply Kd.R_drewN | apply Kd.R_drew)); exact HO557.out))) (zfq (by repeat (first | (with_reducible first | exact HB.out | apply zaq | apply zbq | apply zcq) | exact HB.out)))); have n2_ := zA (zeq (by repeat (first | (with_reducible first | exact HB.out | apply zaq | apply zbq | apply zcq) | exact HB.out)) hb); clear HO557; clear HB; have HO557 := n0_; have HO560 := n1_; have HB := n2_; clear n0_ n1_ n2_; clear hb ho14))
     go_loopg [9, 10] k (fun kq v9 v10 w' => ∃ (x8_1 : List Int) (x9_1 : Bool) (x10_1 : Int), v9 = .bool x9_1 ∧ v10 = .int .i64 x10_1 ∧ Aside0 (tabardref1_Shr.l0 kq a1 t555 x8_1 x9_1 x10_1 = some (r1, r2, r3)) ∧ Aside0 (kq ≤ k) ∧ Aside0 (Kd.R (Kd.int .u32) 40 w' w.heap.size (fun k_ => some k_ ≠ (v559 : Value).ownBlock) (.slice Ao12 t555.length co12) t555) ∧ Aside0 (Kd.R (Kd.int .u32) 40 w' w.heap.size (fun k_ => some k_ ≠ ((.slice Ao12 t555.length co12) : Value).ownBlock) v559 x8_1) ∧ Aside0 (Below w.heap.size w w'))
     case atStart => exact ⟨(y558), (false), (0), (by first | rfl | (simp; done) | (simp [*]; done)), (by first | rfl | (simp; done) | (simp [*]; done)), H', ⟨Nat.le_refl _⟩, ⟨by (with_reducible repeat (first | apply Kd.R_alloc | apply Kd.R_drewN | apply Kd.R_drew)); exact Kd.R_mono HO557.out (fun _ hk => hk.2)⟩, ⟨by (with_reducible repeat (first | apply Kd.R_alloc | apply Kd.R_drewN | apply Kd.R_drew)); exact Kd.R_mono HO560.out (fun _ hk => hk.2)⟩, ⟨by repeat (first | (with_reducible first | exact HB.out | apply zaq | apply zbq | apply zcq) | exact HB.out)⟩⟩
     case round =>
      clear H'
      try clear c1
      try clear p2
      try clear c3
      try clear c3b0
      try clear c5
      try clear c7
      try clear c8
      try clear c8b0
      try clear c8b1
      try clear c9
      try clear c9b0
      try clear c9b1
      try clear c10
      obtain ⟨x8_1, x9_1, x10_1, rfl, rfl, HA, HK1, HO_7, HO_8, HB⟩ := hrel
      cases gk with
      | zero => exact absurd HA.out (by simp [tabardref1_Shr.l0])
      | succ k1 =>
       have H := HA.out
       clear HA
       simp only [tabardref1_Shr.l0] at H
       by_cases c15 : x10_1 < (wrap64 (32 * (t555.length : Int)))
       ·
        rw [if_pos c15] at H
        have c15b0 : decide (x10_1 < (wrap64 (32 * (t555.length : Int)))) = true := decide_eq_true c15
        clear c15
        replace H := Option.bind_eq_some_iff.mp H
        obtain ⟨t564, A160, H⟩ := H
        replace H : (if t564 = true then (tabardref1_Shr.j1 k1 a1 t555 x8_1 x9_1 x10_1 t564 (decide (x10_1 < a1))) else (tabardref1_Shr.j1 k1 a1 t555 x8_1 x9_1 x10_1 t564 false)) = some (r1, r2, r3) := H
        have A16 := zA A160
        clear A160
        have HC17 := zA H
        clear H
        go_upto_region 12 with (first | ((with_reducible refine zoq (f := 76) rfl ?_); refine goesL_ (some 30) rfl rfl Try.func76 (by kernel_rfl) rfl #[.slice Ao12 t555.length co12, .int .i64 x10_1] rfl (by (try simp only [List.map_toArray, List.map_cons, List.map_nil]); first | done | rfl | (simp only [List.length_drop, List.length_take]; rfl)) ?_; (with_reducible refine (tabardref1_Bit.calls _ _ t555 x10_1 t564 _ ?side1 ?side2 A16.out).mono ?_); (case side1 => repeat (first | exact (Kd.R_reads' HO_7.out).2.2 | (with_reducible refine Kd.C_alloc ?_ _) | (with_reducible refine Kd.C_drewN ?_ _) | (with_reducible refine Kd.C_drew ?_))); (case side2 => exact (Kd.R_reads' HO_7.out).2.1); rintro e w' ⟨rfl, ⟨nd, rfl⟩⟩; refine ⟨_, rfl, ?_⟩))
        (try simp only [Act.put, List.setIfInBounds_toArray, List.set_cons_zero, List.set_cons_succ])
        go_cut [36] (fun v36 wc => ∃ (kq : Nat) (x36_16 : Bool), v36 = .bool x36_16 ∧ Aside0 (tabardref1_Shr.j1 kq a1 t555 x8_1 x9_1 x10_1 t564 x36_16 = some (r1, r2, r3)) ∧ Aside0 (kq ≤ k1) ∧ Aside0 (Kd.R (Kd.int .u32) 40 wc w.heap.size (fun k_ => some k_ ≠ (v559 : Value).ownBlock) (.slice Ao12 t555.length co12) t555) ∧ Aside0 (Kd.R (Kd.int .u32) 40 wc w.heap.size (fun k_ => some k_ ≠ ((.slice Ao12 t555.length co12) : Value).ownBlock) v559 x8_1) ∧ Aside0 (Below w.heap.size w wc))
        case first =>
         have H := HC17.out
         clear HC17
         by_cases c18 : t564 = true
         ·
          subst c18
          have H1 : (tabardref1_Shr.j1 k1 a1 t555 x8_1 x9_1 x10_1 true (decide (x10_1 < a1))) = some (r1, r2, r3) := by rw [if_pos rfl] at H; exact H
          clear H
          have H := H1
          clear H1
          have H' := zA H
          clear H
          go_wp2
          go_meet
          case rel => exact ⟨_, (decide (x10_1 < a1)), (by first | rfl | (simp; done) | (simp [*]; done)), H', ⟨by have := HK1.out; first | omega | exact Nat.le_refl _⟩, ⟨by (with_reducible repeat (first | apply Kd.R_alloc | apply Kd.R_drewN | apply Kd.R_drew)); exact HO_7.out⟩, ⟨by (with_reducible repeat (first | apply Kd.R_alloc | apply Kd.R_drewN | apply Kd.R_drew)); exact HO_8.out⟩, ⟨by repeat (first | (with_reducible first | exact HB.out | apply zaq | apply zbq | apply zcq) | exact HB.out)⟩⟩
         ·
          replace c18 := Bool.eq_false_iff.mpr c18
          subst c18
          have H1 : (tabardref1_Shr.j1 k1 a1 t555 x8_1 x9_1 x10_1 false false) = some (r1, r2, r3) := by rw [if_neg (show ¬ (false = true) by decide)] at H; exact H
          clear H
          have H := H1
          clear H1
          have H' := zA H
          clear H
          go_wp2
          go_meet
          case rel => exact ⟨_, (false), (by first | rfl | (simp; done) | (simp [*]; done)), H', ⟨by have := HK1.out; first | omega | exact Nat.le_refl _⟩, ⟨by (with_reducible repeat (first | apply Kd.R_alloc | apply Kd.R_drewN | apply Kd.R_drew)); exact HO_7.out⟩, ⟨by (with_reducible repeat (first | apply Kd.R_alloc | apply Kd.R_drewN | apply Kd.R_drew)); exact HO_8.out⟩, ⟨by repeat (first | (with_reducible first | exact HB.out | apply zaq | apply zbq | apply zcq) | exact HB.out)⟩⟩
        case rest =>
         clear HC17
         try clear c1
         try clear p2
         try clear c3
         try clear c3b0
         try clear c5
         try clear p6
         try clear c7
         try clear c8
         try clear c8b0
         try clear c8b1
         try clear c9
         try clear c9b0
         try clear c9b1
         try clear c10
         try clear c15
         try clear c15b0
         try clear c18
         try clear p2
         obtain ⟨kq, x36_16, rfl, HA, HJ16, HO_7, HO_8, HB⟩ := hcut
         cases kq with
         | zero => exact absurd HA.out (by simp [tabardref1_Shr.j1])
         | succ kj16 =>
          have H := HA.out
          clear HA
          simp only [tabardref1_Shr.j1] at H
          by_cases c19 : x36_16 = true
          ·
           subst c19
           have H1 : (if t564 = true then (if x10_1 ≥ a1 then (if 0 ≤ (wrap64 (Int.tdiv (wrap64 (x10_1 - a1)) 32)) then (if (wrap64 (Int.tdiv (wrap64 (x10_1 - a1)) 32)) < (x8_1.length : Int) then (if 0 ≤ (IntKind.u64.wrap (Int.tmod (wrap64 (x10_1 - a1)) 32)) then (tabardref1_Shr.l0 kj16 a1 t555 (x8_1.set ((wrap64 (Int.tdiv (wrap64 (x10_1 - a1)) 32)) : Int).toNat (Go.bits .or .u32 (rd x8_1 (wrap64 (Int.tdiv (wrap64 (x10_1 - a1)) 32))) (shl .u32 1 (IntKind.u64.wrap (Int.tmod (wrap64 (x10_1 - a1)) 32))))) true (wrap64 (x10_1 + 1))) else (none)) else (none)) else (none)) else (tabardref1_Shr.l0 kj16 a1 t555 x8_1 true (wrap64 (x10_1 + 1)))) else (tabardref1_Shr.l0 kj16 a1 t555 x8_1 true (wrap64 (x10_1 + 1)))) = some (r1, r2, r3) := by rw [if_pos rfl] at H; exact H
           clear H
           have H := H1
           clear H1
           by_cases c20 : t564 = true
           ·
            subst c20
            have H1 : (if x10_1 ≥ a1 then (if 0 ≤ (wrap64 (Int.tdiv (wrap64 (x10_1 - a1)) 32)) then (if (wrap64 (Int.tdiv (wrap64 (x10_1 - a1)) 32)) < (x8_1.length : Int) then (if 0 ≤ (IntKind.u64.wrap (Int.tmod (wrap64 (x10_1 - a1)) 32)) then (tabardref1_Shr.l0 kj16 a1 t555 (x8_1.set ((wrap64 (Int.tdiv (wrap64 (x10_1 - a1)) 32)) : Int).toNat (Go.bits .or .u32 (rd x8_1 (wrap64 (Int.tdiv (wrap64 (x10_1 - a1)) 32))) (shl .u32 1 (IntKind.u64.wrap (Int.tmod (wrap64 (x10_1 - a1)) 32))))) true (wrap64 (x10_1 + 1))) else (none)) else (none)) else (none)) else (tabardref1_Shr.l0 kj16 a1 t555 x8_1 true (wrap64 (x10_1 + 1)))) = some (r1, r2, r3) := by rw [if_pos rfl] at H; exact H
            clear H
            have H := H1
            clear H1
            by_cases c21 : x10_1 ≥ a1
            ·
             rw [if_pos c21] at H
             have c21b0 : decide (a1 ≤ x10_1) = true := decide_eq_true c21
             clear c21
             obtain ⟨ji22, hji22⟩ : ∃ j_ : Int, (wrap64 (Int.tdiv (wrap64 (x10_1 - a1)) 32)) = j_ := ⟨_, rfl⟩
             replace H : (if 0 ≤ (ji22) then (if (ji22) < (x8_1.length : Int) then (if 0 ≤ (IntKind.u64.wrap (Int.tmod (wrap64 (x10_1 - a1)) 32)) then (tabardref1_Shr.l0 kj16 a1 t555 (x8_1.set ((ji22) : Int).toNat (Go.bits .or .u32 (rd x8_1 (ji22)) (shl .u32 1 (IntKind.u64.wrap (Int.tmod (wrap64 (x10_1 - a1)) 32))))) true (wrap64 (x10_1 + 1))) else (none)) else (none)) else (none)) = some (r1, r2, r3) := by first | (rw [hji22] at H; exact H) | (simp only [hji22] at H ⊢; exact H)
             have hji22w : (IntKind.i64.wrap (Int.tdiv (wrap64 (x10_1 - a1)) 32)) = ji22 := (i64_w _).trans hji22
             by_cases c23 : 0 ≤ (ji22)
             ·
              rw [if_pos c23] at H
              have c23b0 : decide (0 ≤ (ji22)) = true := decide_eq_true c23
              clear c23
              by_cases c24 : (ji22) < (x8_1.length : Int)
              ·
               rw [if_pos c24] at H
               have c24b0 : decide ((ji22) < (x8_1.length : Int)) = true := decide_eq_true c24
               clear c24
               obtain ⟨ji25, hji25⟩ : ∃ j_ : Int, (IntKind.u64.wrap (Int.tmod (wrap64 (x10_1 - a1)) 32)) = j_ := ⟨_, rfl⟩
               replace H : (if 0 ≤ (ji25) then (tabardref1_Shr.l0 kj16 a1 t555 (x8_1.set ((ji22) : Int).toNat (Go.bits .or .u32 (rd x8_1 (ji22)) (shl .u32 1 (ji25)))) true (wrap64 (x10_1 + 1))) else (none)) = some (r1, r2, r3) := by first | (rw [hji25] at H; exact H) | (simp only [hji25] at H ⊢; exact H)
               by_cases c26 : 0 ≤ (ji25)
               ·
                rw [if_pos c26] at H
                have c26b0 := eq_true c26
                have c26b1 : decide (0 ≤ (ji25)) = true := decide_eq_true c26
                clear c26
                obtain ⟨ji27, hji27⟩ : ∃ j_ : Int, (shl .u32 1 (ji25)) = j_ := ⟨_, rfl⟩
                replace H : (tabardref1_Shr.l0 kj16 a1 t555 (x8_1.set ((ji22) : Int).toNat (Go.bits .or .u32 (rd x8_1 (ji22)) (ji27))) true (wrap64 (x10_1 + 1))) = some (r1, r2, r3) := by first | (rw [hji27] at H; exact H) | (simp only [hji27] at H ⊢; exact H)
                have hji27_ : (IntKind.u32.wrap (1 * 2 ^ min (ji25).toNat 32)) = ji27 := hji27
                have hji27z : (ji25) ≤ 32 → (IntKind.u32.wrap (1 * 2 ^ (ji25).toNat)) = ji27 := shl_small hji27
                have hji27u : (IntKind.u32.wrap (2 ^ min (ji25).toNat 32)) = ji27 := by have h_ := hji27_; rw [Int.one_mul] at h_; exact h_
                have hji27v : (ji25) ≤ 32 → (IntKind.u32.wrap (2 ^ (ji25).toNat)) = ji27 := fun hle_ => by have h_ := hji27z hle_; rw [Int.one_mul] at h_; exact h_
                obtain ⟨y566, hy566⟩ : ∃ y_ : List Int, y_ = (x8_1.set ((ji22) : Int).toNat (Go.bits .or .u32 (rd x8_1 (ji22)) (ji27))) := ⟨_, rfl⟩
                replace H : (tabardref1_Shr.l0 kj16 a1 t555 y566 true (wrap64 (x10_1 + 1))) = some (r1, r2, r3) := by first | (rw [hy566]; with_reducible exact H) | (have H2_ := (Option.bind_some _ _).symm.trans H; rw [hy566]; with_reducible exact H2_) | (have H2_ := (Option.bind_some _ _).symm.trans H; with_reducible exact H2_) | with_reducible exact H | (rw [hy566]; exact H) | exact H
                have Ny566 := zA hy566
                clear hy566
                have H' := zA H
                clear H
                obtain ⟨Ao29, co29, eo29⟩ := Kd.R_slice HO_8.out
                subst eo29
                have p565 : 0 ≤ ((ji22) : Int) := of_decide_eq_true (by first | (with_reducible assumption) | assumption)
                have q565 : (ji22) < (x8_1.length : Int) := of_decide_eq_true (by first | (with_reducible assumption) | assumption)
                obtain ⟨ad565, e565, hx565_0⟩ := Kd.at_int (Kd.R_reads' HO_8.out).2.2 (ji22) p565 q565
                cases e565
                replace p565 := eq_true p565
                replace q565 := eq_true q565
                have p28 : 0 ≤ ((ji22) : Int) := of_decide_eq_true (by first | (with_reducible assumption) | assumption)
                have q28 : ((ji22) : Int) < ((x8_1.length : Int) : Int) := of_decide_eq_true (by first | (with_reducible assumption) | assumption)
                obtain ⟨go28, co28, eo28, gb28, gl28, cl28, HG28⟩ := Kd.R_form HO_8.out (by omega)
                (first | cases eo28 | (injection eo28 with ea_ en_ ec_; (first | subst ea_ | (injection ea_ with ea_; subst ea_)); subst ec_; clear en_))
                have GB28 := zA gb28
                have GG28 := zA HG28
                clear gb28 gl28 HG28
                (first | simp only [add_plain] at hx565_0 | skip)
                obtain ⟨hx28_0, hf28_0⟩ := Kd.R_celln 0 HO_8.out ((ji22) : Int) p28 q28
                replace p28 := eq_true p28
                replace q28 := eq_true q28
                have HP30 := Kd.R_putg HO_8.out ((ji22) : Int) (Go.bits .or .u32 (rd x8_1 (ji22)) (ji27))
                go_wp2_with (first | ((with_reducible refine gate_store (t := 40) (p := 62) rfl ?_); refine store_event (t := 40) (p := 62) (v := ?vo_w31) (w1 := (wc.setCell ⟨go28, ((ji22) : Int).toNat, none⟩ (.int .u32 (Go.bits .or .u32 (rd x8_1 (ji22)) (ji27))))) ?hg ?ho ?hn ?hr ?_; (case ho => rfl); (case hg => rfl); (case hn => rfl); (case hr => first | (go_simp; done) | (go_simp; rfl)); intro w31 hw; have hg : wc.grownBy w31 (some go28) := (by rw [hw]; exact HP30.2); have hp_ : Kd.R (Kd.int .u32) 40 w31 w.heap.size (fun k_ => some k_ ≠ (.slice Ao12 t555.length co12 : Value).ownBlock) (.slice (some ⟨go28, 0, none⟩) x8_1.length co29) y566 := (by rw [hw, Ny566.out]; exact HP30.1); clear HP30; have n0_ := zA (Kd.R_after (v := (.slice (some ⟨go28, 0, none⟩) x8_1.length co29)) (v1 := (.slice (some ⟨go28, 0, none⟩) x8_1.length co29)) (ok := (fun _ => True)) (by (with_reducible repeat (first | apply Kd.R_alloc | apply Kd.R_drewN | apply Kd.R_drew)); exact Kd.R_mono HO_7.out (fun _ hk => ⟨trivial, hk⟩)) hg (.inl rfl)); have n1_ := zA (hp_); have n2_ := zA ((by rw [hw]; exact zdq (HB.out) GB28.out : Below w.heap.size w w31)); clear HO_7; clear HO_8; clear HB; have HO_7 := n0_; have HO_8 := n1_; have HB := n2_; clear n0_ n1_ n2_; clear hg hw hp_))
                go_roundg kj16
                case measure => have := HK1.out; have := HJ16.out; omega
                case rel => exact ⟨(y566), (true), (wrap64 (x10_1 + 1)), (by first | rfl | (simp; done) | (simp [*]; done)), (by first | rfl | (simp; done) | (simp [*]; done)), H', ⟨by have := HK1.out; have := HJ16.out; omega⟩, ⟨by (with_reducible repeat (first | apply Kd.R_alloc | apply Kd.R_drewN | apply Kd.R_drew)); exact Kd.R_mono HO_7.out (fun _ hk => hk.2)⟩, ⟨by (with_reducible repeat (first | apply Kd.R_alloc | apply Kd.R_drewN | apply Kd.R_drew)); exact HO_8.out⟩, ⟨by repeat (first | (with_reducible first | exact HB.out | apply zaq | apply zbq | apply zcq) | exact HB.out)⟩⟩
               ·
                rw [if_neg c26] at H
                exact absurd H (by simp)
              ·
               rw [if_neg c24] at H
               exact absurd H (by simp)
             ·
              rw [if_neg c23] at H
              exact absurd H (by simp)
            ·
             rw [if_neg c21] at H
             have c21b0 : decide (a1 ≤ x10_1) = false := decide_eq_false c21
             clear c21
             have H' := zA H
             clear H
             go_wp2
             go_roundg kj16
             case measure => have := HK1.out; have := HJ16.out; omega
             case rel => exact ⟨(x8_1), (true), (wrap64 (x10_1 + 1)), (by first | rfl | (simp; done) | (simp [*]; done)), (by first | rfl | (simp; done) | (simp [*]; done)), H', ⟨by have := HK1.out; have := HJ16.out; omega⟩, ⟨by (with_reducible repeat (first | apply Kd.R_alloc | apply Kd.R_drewN | apply Kd.R_drew)); exact HO_7.out⟩, ⟨by (with_reducible repeat (first | apply Kd.R_alloc | apply Kd.R_drewN | apply Kd.R_drew)); exact HO_8.out⟩, ⟨by repeat (first | (with_reducible first | exact HB.out | apply zaq | apply zbq | apply zcq) | exact HB.out)⟩⟩
           ·
            replace c20 := Bool.eq_false_iff.mpr c20
            subst c20
            have H1 : (tabardref1_Shr.l0 kj16 a1 t555 x8_1 true (wrap64 (x10_1 + 1))) = some (r1, r2, r3) := by rw [if_neg (show ¬ (false = true) by decide)] at H; exact H
            clear H
            have H := H1
            clear H1
            have H' := zA H
            clear H
            go_wp2
            go_roundg kj16
            case measure => have := HK1.out; have := HJ16.out; omega
            case rel => exact ⟨(x8_1), (true), (wrap64 (x10_1 + 1)), (by first | rfl | (simp; done) | (simp [*]; done)), (by first | rfl | (simp; done) | (simp [*]; done)), H', ⟨by have := HK1.out; have := HJ16.out; omega⟩, ⟨by (with_reducible repeat (first | apply Kd.R_alloc | apply Kd.R_drewN | apply Kd.R_drew)); exact HO_7.out⟩, ⟨by (with_reducible repeat (first | apply Kd.R_alloc | apply Kd.R_drewN | apply Kd.R_drew)); exact HO_8.out⟩, ⟨by repeat (first | (with_reducible first | exact HB.out | apply zaq | apply zbq | apply zcq) | exact HB.out)⟩⟩
          ·
           replace c19 := Bool.eq_false_iff.mpr c19
           subst c19
           have H1 : (if t564 = true then (if x10_1 ≥ a1 then (if 0 ≤ (wrap64 (Int.tdiv (wrap64 (x10_1 - a1)) 32)) then (if (wrap64 (Int.tdiv (wrap64 (x10_1 - a1)) 32)) < (x8_1.length : Int) then (if 0 ≤ (IntKind.u64.wrap (Int.tmod (wrap64 (x10_1 - a1)) 32)) then (tabardref1_Shr.l0 kj16 a1 t555 (x8_1.set ((wrap64 (Int.tdiv (wrap64 (x10_1 - a1)) 32)) : Int).toNat (Go.bits .or .u32 (rd x8_1 (wrap64 (Int.tdiv (wrap64 (x10_1 - a1)) 32))) (shl .u32 1 (IntKind.u64.wrap (Int.tmod (wrap64 (x10_1 - a1)) 32))))) x9_1 (wrap64 (x10_1 + 1))) else (none)) else (none)) else (none)) else (tabardref1_Shr.l0 kj16 a1 t555 x8_1 x9_1 (wrap64 (x10_1 + 1)))) else (tabardref1_Shr.l0 kj16 a1 t555 x8_1 x9_1 (wrap64 (x10_1 + 1)))) = some (r1, r2, r3) := by rw [if_neg (show ¬ (false = true) by decide)] at H; exact H
           clear H
           have H := H1
           clear H1
           by_cases c32 : t564 = true
           ·
            subst c32
            have H1 : (if x10_1 ≥ a1 then (if 0 ≤ (wrap64 (Int.tdiv (wrap64 (x10_1 - a1)) 32)) then (if (wrap64 (Int.tdiv (wrap64 (x10_1 - a1)) 32)) < (x8_1.length : Int) then (if 0 ≤ (IntKind.u64.wrap (Int.tmod (wrap64 (x10_1 - a1)) 32)) then (tabardref1_Shr.l0 kj16 a1 t555 (x8_1.set ((wrap64 (Int.tdiv (wrap64 (x10_1 - a1)) 32)) : Int).toNat (Go.bits .or .u32 (rd x8_1 (wrap64 (Int.tdiv (wrap64 (x10_1 - a1)) 32))) (shl .u32 1 (IntKind.u64.wrap (Int.tmod (wrap64 (x10_1 - a1)) 32))))) x9_1 (wrap64 (x10_1 + 1))) else (none)) else (none)) else (none)) else (tabardref1_Shr.l0 kj16 a1 t555 x8_1 x9_1 (wrap64 (x10_1 + 1)))) = some (r1, r2, r3) := by rw [if_pos rfl] at H; exact H
            clear H
            have H := H1
            clear H1
            by_cases c33 : x10_1 ≥ a1
            ·
             rw [if_pos c33] at H
             have c33b0 : decide (a1 ≤ x10_1) = true := decide_eq_true c33
             clear c33
             obtain ⟨ji34, hji34⟩ : ∃ j_ : Int, (wrap64 (Int.tdiv (wrap64 (x10_1 - a1)) 32)) = j_ := ⟨_, rfl⟩
             replace H : (if 0 ≤ (ji34) then (if (ji34) < (x8_1.length : Int) then (if 0 ≤ (IntKind.u64.wrap (Int.tmod (wrap64 (x10_1 - a1)) 32)) then (tabardref1_Shr.l0 kj16 a1 t555 (x8_1.set ((ji34) : Int).toNat (Go.bits .or .u32 (rd x8_1 (ji34)) (shl .u32 1 (IntKind.u64.wrap (Int.tmod (wrap64 (x10_1 - a1)) 32))))) x9_1 (wrap64 (x10_1 + 1))) else (none)) else (none)) else (none)) = some (r1, r2, r3) := by first | (rw [hji34] at H; exact H) | (simp only [hji34] at H ⊢; exact H)
             have hji34w : (IntKind.i64.wrap (Int.tdiv (wrap64 (x10_1 - a1)) 32)) = ji34 := (i64_w _).trans hji34
             by_cases c35 : 0 ≤ (ji34)
             ·
              rw [if_pos c35] at H
              have c35b0 : decide (0 ≤ (ji34)) = true := decide_eq_true c35
              clear c35
              by_cases c36 : (ji34) < (x8_1.length : Int)
              ·
               rw [if_pos c36] at H
               have c36b0 : decide ((ji34) < (x8_1.length : Int)) = true := decide_eq_true c36
               clear c36
               obtain ⟨ji37, hji37⟩ : ∃ j_ : Int, (IntKind.u64.wrap (Int.tmod (wrap64 (x10_1 - a1)) 32)) = j_ := ⟨_, rfl⟩
               replace H : (if 0 ≤ (ji37) then (tabardref1_Shr.l0 kj16 a1 t555 (x8_1.set ((ji34) : Int).toNat (Go.bits .or .u32 (rd x8_1 (ji34)) (shl .u32 1 (ji37)))) x9_1 (wrap64 (x10_1 + 1))) else (none)) = some (r1, r2, r3) := by first | (rw [hji37] at H; exact H) | (simp only [hji37] at H ⊢; exact H)
               by_cases c38 : 0 ≤ (ji37)
               ·
                rw [if_pos c38] at H
                have c38b0 := eq_true c38
                have c38b1 : decide (0 ≤ (ji37)) = true := decide_eq_true c38
                clear c38
                obtain ⟨ji39, hji39⟩ : ∃ j_ : Int, (shl .u32 1 (ji37)) = j_ := ⟨_, rfl⟩
                replace H : (tabardref1_Shr.l0 kj16 a1 t555 (x8_1.set ((ji34) : Int).toNat (Go.bits .or .u32 (rd x8_1 (ji34)) (ji39))) x9_1 (wrap64 (x10_1 + 1))) = some (r1, r2, r3) := by first | (rw [hji39] at H; exact H) | (simp only [hji39] at H ⊢; exact H)
                have hji39_ : (IntKind.u32.wrap (1 * 2 ^ min (ji37).toNat 32)) = ji39 := hji39
                have hji39z : (ji37) ≤ 32 → (IntKind.u32.wrap (1 * 2 ^ (ji37).toNat)) = ji39 := shl_small hji39
                have hji39u : (IntKind.u32.wrap (2 ^ min (ji37).toNat 32)) = ji39 := by have h_ := hji39_; rw [Int.one_mul] at h_; exact h_
                have hji39v : (ji37) ≤ 32 → (IntKind.u32.wrap (2 ^ (ji37).toNat)) = ji39 := fun hle_ => by have h_ := hji39z hle_; rw [Int.one_mul] at h_; exact h_
                obtain ⟨y568, hy568⟩ : ∃ y_ : List Int, y_ = (x8_1.set ((ji34) : Int).toNat (Go.bits .or .u32 (rd x8_1 (ji34)) (ji39))) := ⟨_, rfl⟩
                replace H : (tabardref1_Shr.l0 kj16 a1 t555 y568 x9_1 (wrap64 (x10_1 + 1))) = some (r1, r2, r3) := by first | (rw [hy568]; with_reducible exact H) | (have H2_ := (Option.bind_some _ _).symm.trans H; rw [hy568]; with_reducible exact H2_) | (have H2_ := (Option.bind_some _ _).symm.trans H; with_reducible exact H2_) | with_reducible exact H | (rw [hy568]; exact H) | exact H
                have Ny568 := zA hy568
                clear hy568
                have H' := zA H
                clear H
                obtain ⟨Ao41, co41, eo41⟩ := Kd.R_slice HO_8.out
                subst eo41
                have p567 : 0 ≤ ((ji34) : Int) := of_decide_eq_true (by first | (with_reducible assumption) | assumption)
                have q567 : (ji34) < (x8_1.length : Int) := of_decide_eq_true (by first | (with_reducible assumption) | assumption)
                obtain ⟨ad567, e567, hx567_0⟩ := Kd.at_int (Kd.R_reads' HO_8.out).2.2 (ji34) p567 q567
                cases e567
                replace p567 := eq_true p567
                replace q567 := eq_true q567
                have p40 : 0 ≤ ((ji34) : Int) := of_decide_eq_true (by first | (with_reducible assumption) | assumption)
                have q40 : ((ji34) : Int) < ((x8_1.length : Int) : Int) := of_decide_eq_true (by first | (with_reducible assumption) | assumption)
                obtain ⟨go40, co40, eo40, gb40, gl40, cl40, HG40⟩ := Kd.R_form HO_8.out (by omega)
                (first | cases eo40 | (injection eo40 with ea_ en_ ec_; (first | subst ea_ | (injection ea_ with ea_; subst ea_)); subst ec_; clear en_))
                have GB40 := zA gb40
                have GG40 := zA HG40
                clear gb40 gl40 HG40
                (first | simp only [add_plain] at hx567_0 | skip)
                obtain ⟨hx40_0, hf40_0⟩ := Kd.R_celln 0 HO_8.out ((ji34) : Int) p40 q40
                replace p40 := eq_true p40
                replace q40 := eq_true q40
                have HP42 := Kd.R_putg HO_8.out ((ji34) : Int) (Go.bits .or .u32 (rd x8_1 (ji34)) (ji39))
                go_wp2_with (first | ((with_reducible refine gate_store (t := 40) (p := 62) rfl ?_); refine store_event (t := 40) (p := 62) (v := ?vo_w43) (w1 := (wc.setCell ⟨go40, ((ji34) : Int).toNat, none⟩ (.int .u32 (Go.bits .or .u32 (rd x8_1 (ji34)) (ji39))))) ?hg ?ho ?hn ?hr ?_; (case ho => rfl); (case hg => rfl); (case hn => rfl); (case hr => first | (go_simp; done) | (go_simp; rfl)); intro w43 hw; have hg : wc.grownBy w43 (some go40) := (by rw [hw]; exact HP42.2); have hp_ : Kd.R (Kd.int .u32) 40 w43 w.heap.size (fun k_ => some k_ ≠ (.slice Ao12 t555.length co12 : Value).ownBlock) (.slice (some ⟨go40, 0, none⟩) x8_1.length co41) y568 := (by rw [hw, Ny568.out]; exact HP42.1); clear HP42; have n0_ := zA (Kd.R_after (v := (.slice (some ⟨go40, 0, none⟩) x8_1.length co41)) (v1 := (.slice (some ⟨go40, 0, none⟩) x8_1.length co41)) (ok := (fun _ => True)) (by (with_reducible repeat (first | apply Kd.R_alloc | apply Kd.R_drewN | apply Kd.R_drew)); exact Kd.R_mono HO_7.out (fun _ hk => ⟨trivial, hk⟩)) hg (.inl rfl)); have n1_ := zA (hp_); have n2_ := zA ((by rw [hw]; exact zdq (HB.out) GB40.out : Below w.heap.size w w43)); clear HO_7; clear HO_8; clear HB; have HO_7 := n0_; have HO_8 := n1_; have HB := n2_; clear n0_ n1_ n2_; clear hg hw hp_))
                go_roundg kj16
                case measure => have := HK1.out; have := HJ16.out; omega
                case rel => exact ⟨(y568), (x9_1), (wrap64 (x10_1 + 1)), (by first | rfl | (simp; done) | (simp [*]; done)), (by first | rfl | (simp; done) | (simp [*]; done)), H', ⟨by have := HK1.out; have := HJ16.out; omega⟩, ⟨by (with_reducible repeat (first | apply Kd.R_alloc | apply Kd.R_drewN | apply Kd.R_drew)); exact Kd.R_mono HO_7.out (fun _ hk => hk.2)⟩, ⟨by (with_reducible repeat (first | apply Kd.R_alloc | apply Kd.R_drewN | apply Kd.R_drew)); exact HO_8.out⟩, ⟨by repeat (first | (with_reducible first | exact HB.out | apply zaq | apply zbq | apply zcq) | exact HB.out)⟩⟩
               ·
                rw [if_neg c38] at H
                exact absurd H (by simp)
              ·
               rw [if_neg c36] at H
               exact absurd H (by simp)
             ·
              rw [if_neg c35] at H
              exact absurd H (by simp)
            ·
             rw [if_neg c33] at H
             have c33b0 : decide (a1 ≤ x10_1) = false := decide_eq_false c33
             clear c33
             have H' := zA H
             clear H
             go_wp2
             go_roundg kj16
             case measure => have := HK1.out; have := HJ16.out; omega
             case rel => exact ⟨(x8_1), (x9_1), (wrap64 (x10_1 + 1)), (by first | rfl | (simp; done) | (simp [*]; done)), (by first | rfl | (simp; done) | (simp [*]; done)), H', ⟨by have := HK1.out; have := HJ16.out; omega⟩, ⟨by (with_reducible repeat (first | apply Kd.R_alloc | apply Kd.R_drewN | apply Kd.R_drew)); exact HO_7.out⟩, ⟨by (with_reducible repeat (first | apply Kd.R_alloc | apply Kd.R_drewN | apply Kd.R_drew)); exact HO_8.out⟩, ⟨by repeat (first | (with_reducible first | exact HB.out | apply zaq | apply zbq | apply zcq) | exact HB.out)⟩⟩
           ·
            replace c32 := Bool.eq_false_iff.mpr c32
            subst c32
            have H1 : (tabardref1_Shr.l0 kj16 a1 t555 x8_1 x9_1 (wrap64 (x10_1 + 1))) = some (r1, r2, r3) := by rw [if_neg (show ¬ (false = true) by decide)] at H; exact H
            clear H
            have H := H1
            clear H1
            have H' := zA H
            clear H
            go_wp2
            go_roundg kj16
            case measure => have := HK1.out; have := HJ16.out; omega
            case rel => exact ⟨(x8_1), (x9_1), (wrap64 (x10_1 + 1)), (by first | rfl | (simp; done) | (simp [*]; done)), (by first | rfl | (simp; done) | (simp [*]; done)), H', ⟨by have := HK1.out; have := HJ16.out; omega⟩, ⟨by (with_reducible repeat (first | apply Kd.R_alloc | apply Kd.R_drewN | apply Kd.R_drew)); exact HO_7.out⟩, ⟨by (with_reducible repeat (first | apply Kd.R_alloc | apply Kd.R_drewN | apply Kd.R_drew)); exact HO_8.out⟩, ⟨by repeat (first | (with_reducible first | exact HB.out | apply zaq | apply zbq | apply zcq) | exact HB.out)⟩⟩
       ·
        rw [if_neg c15] at H
        have c15b0 : decide (x10_1 < (wrap64 (32 * (t555.length : Int)))) = false := decide_eq_false c15
        clear c15
        replace H := Option.bind_eq_some_iff.mp H
        obtain ⟨t561, A440, H⟩ := H
        replace H : (some (t561, x9_1, 0)) = some (r1, r2, r3) := H
        have A44 := zA A440
        clear A440
        simp only [Option.some.injEq, Prod.mk.injEq] at H
        obtain ⟨rfl, rfl, rfl⟩ := H
        obtain ⟨Ao45, co45, eo45⟩ := Kd.R_slice HO_8.out
        subst eo45
        go_wp2_with (first | ((with_reducible refine zoq (f := 78) rfl ?_); refine goesL_ (some 64) rfl rfl Try.func78 (by kernel_rfl) rfl #[.slice Ao45 x8_1.length co45] rfl (by (try simp only [List.map_toArray, List.map_cons, List.map_nil]); first | done | rfl | (simp only [List.length_drop, List.length_take]; rfl)) ?_; (with_reducible refine (tabardref1_Trim.calls k1 _ _ x8_1 t561 _ ?side1 ?side2 A44.out).mono ?_); (case side1 => repeat (first | exact (Kd.R_reads' HO_8.out).2.2 | (with_reducible refine Kd.C_alloc ?_ _) | (with_reducible refine Kd.C_drewN ?_ _) | (with_reducible refine Kd.C_drew ?_))); (case side2 => exact (Kd.R_reads' HO_8.out).2.1); rintro e w46 ⟨v562, rfl, ho0, hb⟩; refine ⟨_, rfl, ?_⟩; have n0_ := zA (Kd.R_elder' (by (with_reducible repeat (first | apply Kd.R_alloc | apply Kd.R_drewN | apply Kd.R_drew)); exact HO_7.out) (Kd.R_base ho0) hb); have n1_ := zA (Kd.R_elder' (by (with_reducible repeat (first | apply Kd.R_alloc | apply Kd.R_drewN | apply Kd.R_drew)); exact HO_8.out) (Kd.R_base ho0) hb); have n2_ := zA (Kd.R_lower (Kd.R_new' (Kd.R_new' ho0 (Kd.R_lt (by (with_reducible repeat (first | apply Kd.R_alloc | apply Kd.R_drewN | apply Kd.R_drew)); exact HO_7.out))) (Kd.R_lt (by (with_reducible repeat (first | apply Kd.R_alloc | apply Kd.R_drewN | apply Kd.R_drew)); exact HO_8.out))) (zfq (by repeat (first | (with_reducible first | exact HB.out | apply zaq | apply zbq | apply zcq) | exact HB.out)))); have n3_ := zA (zeq (by repeat (first | (with_reducible first | exact HB.out | apply zaq | apply zbq | apply zcq) | exact HB.out)) hb); clear HO_7; clear HO_8; clear HB; have HO_7 := n0_; have HO_8 := n1_; have HO563 := n2_; have HB := n3_; clear n0_ n1_ n2_ n3_; (try clear hb); (try clear hb2); (try clear hk); (try clear hi); (try clear ho0)))
        go_ret3
        exact ⟨_, by first | rfl | (simp [errW_none, errW_some] <;> rfl) | (simp [*, errW_none, errW_some] <;> rfl), by (with_reducible repeat (first | apply Kd.R_alloc | apply Kd.R_drewN | apply Kd.R_drew)); exact Kd.R_mono HO563.out (fun _ hk => trivial), by repeat (first | (with_reducible first | exact HB.out | apply zaq | apply zbq | apply zcq) | exact HB.out)⟩
    ·
     rw [if_neg c9] at H
     exact absurd H (by simp)
   ·
    rw [if_neg c8] at H
    exact absurd H (by simp)

end Go.Proofs.Ytbejjlecpcphoaa.P
