-- Written by a program of this session's (a turned print), not by hand.
import Derived.Test.YtbejjlecpcphoaaPx0
import Derived.Test.YtbejjlecpcphoaaPx11
import Derived.Test.YtbejjlecpcphoaaPx12
import Derived.Test.YtbejjlecpcphoaaPx13
namespace Go.Proofs.Ytbejjlecpcphoaa.P
open Go.RowKit Go.Proofs.YtbejjlecpcphoaaW.PrintWords Go.Proofs.YtbejjlecpcphoaaW.PrintLast Go.Proofs.YtbejjlecpcphoaaW.PrintMore
attribute [local go_sem] max2_int min2_int max_two min_two max_three min_three max_four min_four   -- for this text's walks alone
set_option linter.unusedVariables false
set_option linter.unusedSimpArgs false

/-! ### tabardref3_Round: function 21 -/
mutual
def tabardref3_Round.j0 : Nat → List Int → Int → Bool → Int → Option (Int)
 | 0, _, _, _, _ => none
 | k + 1, x1, x2, x3, x9 => (tabardref1_Len.f k x1).bind fun t206 => (if t206 = 0 then (tabardref3_Round.j1 k x1 x2 x3 x9 t206 true) else (if x2 < (-100000) then (tabardref3_Round.j1 k x1 x2 x3 x9 t206 (decide ((wrap64 (x2 + t206)) < (-2000)))) else (tabardref3_Round.j1 k x1 x2 x3 x9 t206 false)))
def tabardref3_Round.j1 : Nat → List Int → Int → Bool → Int → Int → Bool → Option (Int)
 | 0, _, _, _, _, _, _ => none
 | k + 1, x1, x2, x3, x9, x10, x30 => if x30 = true then (some x9) else (if x2 > 2000 then (some (IntKind.u64.wrap (x9 + 9218868437227405312))) else (if (wrap64 ((wrap64 (x2 + x10)) - 53)) < (-1074) then (tabardref3_Round.j2 k x1 x2 x3 x9 (-1074)) else (tabardref3_Round.j2 k x1 x2 x3 x9 (wrap64 ((wrap64 (x2 + x10)) - 53)))))
def tabardref3_Round.j2 : Nat → List Int → Int → Bool → Int → Int → Option (Int)
 | 0, _, _, _, _, _ => none
 | k + 1, x1, x2, x3, x9, x11 => if x11 ≤ x2 then ((tabardref3_Up.f k x1 (wrap64 (x2 - x11))).bind fun t207 => ((tabardref3_from.f k t207 0).bind fun t210 => (tabardref3_Round.j3 k x9 x11 t210))) else ((tabardref3_from.f k x1 (wrap64 (x11 - x2))).bind fun t211 => ((tabardref1_Bit.f x1 (wrap64 ((wrap64 (x11 - x2)) - 1))).bind fun t212 => ((tabardref3_low.f k x1 (wrap64 ((wrap64 (x11 - x2)) - 1))).bind fun t213 => (if t213 = true then (if t212 = true then (tabardref3_Round.j3 k x9 x11 (IntKind.u64.wrap (t211 + 1))) else (tabardref3_Round.j3 k x9 x11 t211)) else (if t212 = true then (if x3 = true then (tabardref3_Round.j3 k x9 x11 (IntKind.u64.wrap (t211 + 1))) else (if (Int.tmod t211 2) = 1 then (tabardref3_Round.j3 k x9 x11 (IntKind.u64.wrap (t211 + 1))) else (tabardref3_Round.j3 k x9 x11 t211))) else (tabardref3_Round.j3 k x9 x11 t211))))))
def tabardref3_Round.j3 : Nat → Int → Int → Int → Option (Int)
 | 0, _, _, _ => none
 | k + 1, x9, x11, x12 => if x12 = 9007199254740992 then (tabardref3_Round.j4 k x9 (wrap64 (x11 + 1)) 4503599627370496) else (tabardref3_Round.j4 k x9 x11 x12)
def tabardref3_Round.j4 : Nat → Int → Int → Int → Option (Int)
 | 0, _, _, _ => none
 | k + 1, x9, x11, x12 => if x12 < 4503599627370496 then (some (IntKind.u64.wrap (x9 + x12))) else (if (wrap64 (x11 + 1075)) ≥ 2047 then (some (IntKind.u64.wrap (x9 + 9218868437227405312))) else (some (IntKind.u64.wrap ((IntKind.u64.wrap ((IntKind.u64.wrap (x9 + (IntKind.u64.wrap ((IntKind.u64.wrap (wrap64 (x11 + 1075))) * 4503599627370496)))) + x12)) - 4503599627370496))))
end
def tabardref3_Round.f (k : Nat) (a0 : Bool) (l1 : List Int) (a2 : Int) (a3 : Bool) : Option (Int) := if a0 = true then (tabardref3_Round.j0 k l1 a2 a3 9223372036854775808) else (tabardref3_Round.j0 k l1 a2 a3 0)
theorem tabardref3_Round.mono_l : ∀ k, (∀ y0 y1 y2 y3, LeO (tabardref3_Round.j0 k y0 y1 y2 y3) (tabardref3_Round.j0 (k + 1) y0 y1 y2 y3)) ∧ (∀ y0 y1 y2 y3 y4 y5, LeO (tabardref3_Round.j1 k y0 y1 y2 y3 y4 y5) (tabardref3_Round.j1 (k + 1) y0 y1 y2 y3 y4 y5)) ∧ (∀ y0 y1 y2 y3 y4, LeO (tabardref3_Round.j2 k y0 y1 y2 y3 y4) (tabardref3_Round.j2 (k + 1) y0 y1 y2 y3 y4)) ∧ (∀ y0 y1 y2, LeO (tabardref3_Round.j3 k y0 y1 y2) (tabardref3_Round.j3 (k + 1) y0 y1 y2)) ∧ (∀ y0 y1 y2, LeO (tabardref3_Round.j4 k y0 y1 y2) (tabardref3_Round.j4 (k + 1) y0 y1 y2))
 | 0 => ⟨fun _ _ _ _ r h => by simp [tabardref3_Round.j0] at h, fun _ _ _ _ _ _ r h => by simp [tabardref3_Round.j1] at h, fun _ _ _ _ _ r h => by simp [tabardref3_Round.j2] at h, fun _ _ _ r h => by simp [tabardref3_Round.j3] at h, fun _ _ _ r h => by simp [tabardref3_Round.j4] at h⟩
 | k + 1 => by
  obtain ⟨ih0, ih1, ih2, ih3, ih4⟩ := tabardref3_Round.mono_l k
  refine ⟨?_, ?_, ?_, ?_, ?_⟩
  ·
   intro y0 y1 y2 y3
   unfold tabardref3_Round.j0
   repeat' first
   | (with_reducible exact ih0 _ _ _ _)
   | (with_reducible exact ih1 _ _ _ _ _ _)
   | (with_reducible exact ih2 _ _ _ _ _)
   | (with_reducible exact ih3 _ _ _)
   | (with_reducible exact ih4 _ _ _)
   | (with_reducible exact tabardref1_Len.mono _ _)
   | (with_reducible exact tabardref3_Up.mono _ _ _)
   | (with_reducible exact tabardref3_from.mono _ _ _)
   | (with_reducible exact tabardref3_low.mono _ _ _)
   | (with_reducible exact LeO.refl _)
   | (with_reducible exact LeO.none _)
   | (with_reducible refine LeO.ite ?_ ?_)
   | (with_reducible refine LeO.bind ?_ (fun _ => ?_))
   | exact ih0 _ _ _ _
   | exact ih1 _ _ _ _ _ _
   | exact ih2 _ _ _ _ _
   | exact ih3 _ _ _
   | exact ih4 _ _ _
   | exact tabardref1_Len.mono _ _
   | exact tabardref3_Up.mono _ _ _
   | exact tabardref3_from.mono _ _ _
   | exact tabardref3_low.mono _ _ _
   | exact LeO.none _
   | refine LeO.ite ?_ ?_
   | refine LeO.bind ?_ (fun _ => ?_)
  ·
   intro y0 y1 y2 y3 y4 y5
   unfold tabardref3_Round.j1
   repeat' first
   | (with_reducible exact ih0 _ _ _ _)
   | (with_reducible exact ih1 _ _ _ _ _ _)
   | (with_reducible exact ih2 _ _ _ _ _)
   | (with_reducible exact ih3 _ _ _)
   | (with_reducible exact ih4 _ _ _)
   | (with_reducible exact tabardref1_Len.mono _ _)
   | (with_reducible exact tabardref3_Up.mono _ _ _)
   | (with_reducible exact tabardref3_from.mono _ _ _)
   | (with_reducible exact tabardref3_low.mono _ _ _)
   | (with_reducible exact LeO.refl _)
   | (with_reducible exact LeO.none _)
   | (with_reducible refine LeO.ite ?_ ?_)
   | (with_reducible refine LeO.bind ?_ (fun _ => ?_))
   | exact ih0 _ _ _ _
   | exact ih1 _ _ _ _ _ _
   | exact ih2 _ _ _ _ _
   | exact ih3 _ _ _
   | exact ih4 _ _ _
   | exact tabardref1_Len.mono _ _
   | exact tabardref3_Up.mono _ _ _
   | exact tabardref3_from.mono _ _ _
   | exact tabardref3_low.mono _ _ _
   | exact LeO.none _
   | refine LeO.ite ?_ ?_
   | refine LeO.bind ?_ (fun _ => ?_)
  ·
   intro y0 y1 y2 y3 y4
   unfold tabardref3_Round.j2
   repeat' first
   | (with_reducible exact ih0 _ _ _ _)
   | (with_reducible exact ih1 _ _ _ _ _ _)
   | (with_reducible exact ih2 _ _ _ _ _)
   | (with_reducible exact ih3 _ _ _)
   | (with_reducible exact ih4 _ _ _)
   | (with_reducible exact tabardref1_Len.mono _ _)
   | (with_reducible exact tabardref3_Up.mono _ _ _)
   | (with_reducible exact tabardref3_from.mono _ _ _)
   | (with_reducible exact tabardref3_low.mono _ _ _)
   | (with_reducible exact LeO.refl _)
   | (with_reducible exact LeO.none _)
   | (with_reducible refine LeO.ite ?_ ?_)
   | (with_reducible refine LeO.bind ?_ (fun _ => ?_))
   | exact ih0 _ _ _ _
   | exact ih1 _ _ _ _ _ _
   | exact ih2 _ _ _ _ _
   | exact ih3 _ _ _
   | exact ih4 _ _ _
   | exact tabardref1_Len.mono _ _
   | exact tabardref3_Up.mono _ _ _
   | exact tabardref3_from.mono _ _ _
   | exact tabardref3_low.mono _ _ _
   | exact LeO.none _
   | refine LeO.ite ?_ ?_
   | refine LeO.bind ?_ (fun _ => ?_)
  ·
   intro y0 y1 y2
   unfold tabardref3_Round.j3
   repeat' first
   | (with_reducible exact ih0 _ _ _ _)
   | (with_reducible exact ih1 _ _ _ _ _ _)
   | (with_reducible exact ih2 _ _ _ _ _)
   | (with_reducible exact ih3 _ _ _)
   | (with_reducible exact ih4 _ _ _)
   | (with_reducible exact tabardref1_Len.mono _ _)
   | (with_reducible exact tabardref3_Up.mono _ _ _)
   | (with_reducible exact tabardref3_from.mono _ _ _)
   | (with_reducible exact tabardref3_low.mono _ _ _)
   | (with_reducible exact LeO.refl _)
   | (with_reducible exact LeO.none _)
   | (with_reducible refine LeO.ite ?_ ?_)
   | (with_reducible refine LeO.bind ?_ (fun _ => ?_))
   | exact ih0 _ _ _ _
   | exact ih1 _ _ _ _ _ _
   | exact ih2 _ _ _ _ _
   | exact ih3 _ _ _
   | exact ih4 _ _ _
   | exact tabardref1_Len.mono _ _
   | exact tabardref3_Up.mono _ _ _
   | exact tabardref3_from.mono _ _ _
   | exact tabardref3_low.mono _ _ _
   | exact LeO.none _
   | refine LeO.ite ?_ ?_
   | refine LeO.bind ?_ (fun _ => ?_)
  ·
   intro y0 y1 y2
   unfold tabardref3_Round.j4
   repeat' first
   | (with_reducible exact ih0 _ _ _ _)
   | (with_reducible exact ih1 _ _ _ _ _ _)
   | (with_reducible exact ih2 _ _ _ _ _)
   | (with_reducible exact ih3 _ _ _)
   | (with_reducible exact ih4 _ _ _)
   | (with_reducible exact tabardref1_Len.mono _ _)
   | (with_reducible exact tabardref3_Up.mono _ _ _)
   | (with_reducible exact tabardref3_from.mono _ _ _)
   | (with_reducible exact tabardref3_low.mono _ _ _)
   | (with_reducible exact LeO.refl _)
   | (with_reducible exact LeO.none _)
   | (with_reducible refine LeO.ite ?_ ?_)
   | (with_reducible refine LeO.bind ?_ (fun _ => ?_))
   | exact ih0 _ _ _ _
   | exact ih1 _ _ _ _ _ _
   | exact ih2 _ _ _ _ _
   | exact ih3 _ _ _
   | exact ih4 _ _ _
   | exact tabardref1_Len.mono _ _
   | exact tabardref3_Up.mono _ _ _
   | exact tabardref3_from.mono _ _ _
   | exact tabardref3_low.mono _ _ _
   | exact LeO.none _
   | refine LeO.ite ?_ ?_
   | refine LeO.bind ?_ (fun _ => ?_)
theorem tabardref3_Round.mono : ∀ a0 a1 a2 a3 k, LeO (tabardref3_Round.f k a0 a1 a2 a3) (tabardref3_Round.f (k + 1) a0 a1 a2 a3) := by
 intro a0 a1 a2 a3 k
 obtain ⟨ih0, ih1, ih2, ih3, ih4⟩ := tabardref3_Round.mono_l k
 unfold tabardref3_Round.f
 repeat' first
   | (with_reducible exact ih0 _ _ _ _)
   | (with_reducible exact ih1 _ _ _ _ _ _)
   | (with_reducible exact ih2 _ _ _ _ _)
   | (with_reducible exact ih3 _ _ _)
   | (with_reducible exact ih4 _ _ _)
   | (with_reducible exact tabardref1_Len.mono _ _)
   | (with_reducible exact tabardref3_Up.mono _ _ _)
   | (with_reducible exact tabardref3_from.mono _ _ _)
   | (with_reducible exact tabardref3_low.mono _ _ _)
   | (with_reducible exact LeO.refl _)
   | (with_reducible exact LeO.none _)
   | (with_reducible refine LeO.ite ?_ ?_)
   | (with_reducible refine LeO.bind ?_ (fun _ => ?_))
   | exact ih0 _ _ _ _
   | exact ih1 _ _ _ _ _ _
   | exact ih2 _ _ _ _ _
   | exact ih3 _ _ _
   | exact ih4 _ _ _
   | exact tabardref1_Len.mono _ _
   | exact tabardref3_Up.mono _ _ _
   | exact tabardref3_from.mono _ _ _
   | exact tabardref3_low.mono _ _ _
   | exact LeO.none _
   | refine LeO.ite ?_ ?_
   | refine LeO.bind ?_ (fun _ => ?_)
set_option maxHeartbeats 8000000 in
set_option maxRecDepth 100000 in
theorem tabardref3_Round.calls (k : Nat) (a0 : Bool) (A1 : Option Addr) (c1 : Nat) (l1 : List Int) (a2 : Int) (a3 : Bool) (r : Int) (w : World) (hr1 : Kd.C (Kd.int .u32) w A1 l1.length l1) (hc1 : l1.length ≤ c1) (h : tabardref3_Round.f k a0 l1 a2 a3 = some r) :
  Calls Try.prog 21 #[.bool a0, .slice A1 l1.length c1, .int .i64 a2, .bool a3] w fun e w' => e = .returned (.int .u64 r) ∧ Below w.heap.size w w' := by
 have HR1 := zA hr1
 have HC1 := zA hc1
 clear hr1 hc1
 have HB := zA (Below.refl w.heap.size w)
 have H : (if a0 = true then (tabardref3_Round.j0 k l1 a2 a3 9223372036854775808) else (tabardref3_Round.j0 k l1 a2 a3 0)) = some r := h
 clear h
 have HC5 := zA H
 clear H
 go_enter Try.func21, Try.ntmps21
 go_upto_if 16 with (fail)
 go_cut [9] (fun v9 wc => ∃ (kq : Nat) (x9_4 : Int), v9 = .int .u64 x9_4 ∧ Aside0 (tabardref3_Round.j0 kq l1 a2 a3 x9_4 = some r) ∧ Aside0 (kq ≤ k) ∧ Aside0 (Below w.heap.size w wc))
 case first =>
  have H := HC5.out
  clear HC5
  by_cases c6 : a0 = true
  ·
   subst c6
   have H1 : (tabardref3_Round.j0 k l1 a2 a3 9223372036854775808) = some r := by rw [if_pos rfl] at H; exact H
   clear H
   have H := H1
   clear H1
   have H' := zA H
   clear H
   go_wp2
   go_meet
   case rel => exact ⟨_, (9223372036854775808), (by first | rfl | (simp; done) | (simp [*]; done)), H', ⟨by first | omega | exact Nat.le_refl _⟩, ⟨by repeat (first | (with_reducible first | exact HB.out | apply zaq | apply zbq | apply zcq) | exact HB.out)⟩⟩
  ·
   replace c6 := Bool.eq_false_iff.mpr c6
   subst c6
   have H1 : (tabardref3_Round.j0 k l1 a2 a3 0) = some r := by rw [if_neg (show ¬ (false = true) by decide)] at H; exact H
   clear H
   have H := H1
   clear H1
   have H' := zA H
   clear H
   go_wp2
   go_meet
   case rel => exact ⟨_, (0), (by first | rfl | (simp; done) | (simp [*]; done)), H', ⟨by first | omega | exact Nat.le_refl _⟩, ⟨by repeat (first | (with_reducible first | exact HB.out | apply zaq | apply zbq | apply zcq) | exact HB.out)⟩⟩
 case rest =>
  clear HC5
  try clear c1
  try clear c2
  try clear p2
  try clear c6
  obtain ⟨kq, x9_4, rfl, HA, HJ4, HB⟩ := hcut
  cases kq with
  | zero => exact absurd HA.out (by simp [tabardref3_Round.j0])
  | succ kj4 =>
   have H := HA.out
   clear HA
   simp only [tabardref3_Round.j0] at H
   replace H := Option.bind_eq_some_iff.mp H
   obtain ⟨t206, A70, H⟩ := H
   replace H : (if t206 = 0 then (tabardref3_Round.j1 kj4 l1 a2 a3 x9_4 t206 true) else (if a2 < (-100000) then (tabardref3_Round.j1 kj4 l1 a2 a3 x9_4 t206 (decide ((wrap64 (a2 + t206)) < (-2000)))) else (tabardref3_Round.j1 kj4 l1 a2 a3 x9_4 t206 false))) = some r := H
   have A7 := zA A70
   clear A70
   have HC8 := zA H
   clear H
   go_upto_region 5 with (first | ((with_reducible refine zoq (f := 50) rfl ?_); refine goesL_ (some 18) rfl rfl Try.func50 (by kernel_rfl) rfl #[.slice A1 l1.length c1] rfl (by (try simp only [List.map_toArray, List.map_cons, List.map_nil]); first | done | rfl | (simp only [List.length_drop, List.length_take]; rfl)) ?_; (with_reducible refine (tabardref1_Len.calls kj4 _ _ l1 t206 _ ?side1 ?side2 A7.out).mono ?_); (case side1 => repeat (first | exact (Kd.C_below HR1.out HB.out) | (with_reducible refine Kd.C_alloc ?_ _) | (with_reducible refine Kd.C_drewN ?_ _) | (with_reducible refine Kd.C_drew ?_))); (case side2 => exact HC1.out); rintro e w9 ⟨rfl, hb⟩; refine ⟨_, rfl, ?_⟩; have n0_ := zA (zeq (by repeat (first | (with_reducible first | exact HB.out | apply zaq | apply zbq | apply zcq) | exact HB.out)) hb); clear HB; have HB := n0_; clear n0_; (try clear hb); (try clear hb2); (try clear hk); (try clear hi)))
   (try simp only [Act.put, List.setIfInBounds_toArray, List.set_cons_zero, List.set_cons_succ])
   go_cut [30] (fun v30 wc => ∃ (kq : Nat) (x30_7 : Bool), v30 = .bool x30_7 ∧ Aside0 (tabardref3_Round.j1 kq l1 a2 a3 x9_4 t206 x30_7 = some r) ∧ Aside0 (kq ≤ kj4) ∧ Aside0 (Below w.heap.size w wc))
   case first =>
    have H := HC8.out
    clear HC8
    by_cases c10 : t206 = 0
    ·
     rw [if_pos c10] at H
     have c10b0 : (t206 == 0) = true := beq_iff_eq.mpr c10
     have c10b1 : (t206 != 0) = false := bne_eq_false_iff_eq.mpr c10
     clear c10
     (first | rw [c10b0] | (simp only [i64_w, i32_w]; rw [c10b0]) | skip)
     have H' := zA H
     clear H
     go_wp2
     go_meet
     case rel => exact ⟨_, (true), (by first | rfl | (simp; done) | (simp [*]; done)), H', ⟨by have := HJ4.out; first | omega | exact Nat.le_refl _⟩, ⟨by repeat (first | (with_reducible first | exact HB.out | apply zaq | apply zbq | apply zcq) | exact HB.out)⟩⟩
    ·
     rw [if_neg c10] at H
     have c10b0 : (t206 == 0) = false := beq_eq_false_iff_ne.mpr c10
     have c10b1 : (t206 != 0) = true := bne_iff_ne.mpr c10
     (first | rw [c10b0] | (simp only [i64_w, i32_w]; rw [c10b0]) | skip)
     by_cases c11 : a2 < (-100000)
     ·
      rw [if_pos c11] at H
      have c11b0 : decide (a2 < (-100000)) = true := decide_eq_true c11
      clear c11
      have H' := zA H
      clear H
      go_wp2
      go_meet
      case rel => exact ⟨_, (decide ((wrap64 (a2 + t206)) < (-2000))), (by first | rfl | (simp; done) | (simp [*]; done)), H', ⟨by have := HJ4.out; first | omega | exact Nat.le_refl _⟩, ⟨by repeat (first | (with_reducible first | exact HB.out | apply zaq | apply zbq | apply zcq) | exact HB.out)⟩⟩
     ·
      rw [if_neg c11] at H
      have c11b0 : decide (a2 < (-100000)) = false := decide_eq_false c11
      clear c11
      have H' := zA H
      clear H
      go_wp2
      go_meet
      case rel => exact ⟨_, (false), (by first | rfl | (simp; done) | (simp [*]; done)), H', ⟨by have := HJ4.out; first | omega | exact Nat.le_refl _⟩, ⟨by repeat (first | (with_reducible first | exact HB.out | apply zaq | apply zbq | apply zcq) | exact HB.out)⟩⟩
   case rest =>
    clear HC8
    try clear c1
    try clear c2
    try clear p2
    try clear c5
    try clear c6
    try clear p6
    try clear c10
    try clear c10b0
    try clear c10b1
    try clear c11
    try clear c11b0
    try clear p2
    obtain ⟨kq, x30_7, rfl, HA, HJ7, HB⟩ := hcut
    cases kq with
    | zero => exact absurd HA.out (by simp [tabardref3_Round.j1])
    | succ kj7 =>
     have H := HA.out
     clear HA
     simp only [tabardref3_Round.j1] at H
     by_cases c12 : x30_7 = true
     ·
      subst c12
      have H1 : (some x9_4) = some r := by rw [if_pos rfl] at H; exact H
      clear H
      have H := H1
      clear H1
      obtain rfl := Option.some.inj H
      go_wp2
      go_ret
      exact ⟨by first | rfl | (simp [errW_none, errW_some] <;> rfl) | (simp [*, errW_none, errW_some] <;> rfl), by repeat (first | (with_reducible first | exact HB.out | apply zaq | apply zbq | apply zcq) | exact HB.out)⟩
     ·
      replace c12 := Bool.eq_false_iff.mpr c12
      subst c12
      have H1 : (if a2 > 2000 then (some (IntKind.u64.wrap (x9_4 + 9218868437227405312))) else (if (wrap64 ((wrap64 (a2 + t206)) - 53)) < (-1074) then (tabardref3_Round.j2 kj7 l1 a2 a3 x9_4 (-1074)) else (tabardref3_Round.j2 kj7 l1 a2 a3 x9_4 (wrap64 ((wrap64 (a2 + t206)) - 53))))) = some r := by rw [if_neg (show ¬ (false = true) by decide)] at H; exact H
      clear H
      have H := H1
      clear H1
      by_cases c13 : a2 > 2000
      ·
       rw [if_pos c13] at H
       have c13b0 : decide (2000 < a2) = true := decide_eq_true c13
       clear c13
       obtain rfl := Option.some.inj H
       go_wp2
       go_ret
       exact ⟨by first | rfl | (simp [errW_none, errW_some] <;> rfl) | (simp [*, errW_none, errW_some] <;> rfl), by repeat (first | (with_reducible first | exact HB.out | apply zaq | apply zbq | apply zcq) | exact HB.out)⟩
      ·
       rw [if_neg c13] at H
       have c13b0 : decide (2000 < a2) = false := decide_eq_false c13
       clear c13
       have HC14 := zA H
       clear H
       go_upto_if 41 with (fail)
       go_cut [11] (fun v11 wc => ∃ (kq : Nat) (x11_13 : Int), v11 = .int .i64 x11_13 ∧ Aside0 (tabardref3_Round.j2 kq l1 a2 a3 x9_4 x11_13 = some r) ∧ Aside0 (kq ≤ kj7) ∧ Aside0 (Below w.heap.size w wc))
       case first =>
        have H := HC14.out
        clear HC14
        by_cases c15 : (wrap64 ((wrap64 (a2 + t206)) - 53)) < (-1074)
        ·
         rw [if_pos c15] at H
         have c15b0 : decide ((wrap64 ((wrap64 (a2 + t206)) - 53)) < (-1074)) = true := decide_eq_true c15
         clear c15
         (first | rw [c15b0] | (simp only [i64_w, i32_w]; rw [c15b0]) | skip)
         have H' := zA H
         clear H
         go_wp2
         go_meet
         case rel => exact ⟨_, ((-1074)), (by first | rfl | (simp; done) | (simp [*]; done)), H', ⟨by have := HJ4.out; have := HJ7.out; first | omega | exact Nat.le_refl _⟩, ⟨by repeat (first | (with_reducible first | exact HB.out | apply zaq | apply zbq | apply zcq) | exact HB.out)⟩⟩
        ·
         rw [if_neg c15] at H
         have c15b0 : decide ((wrap64 ((wrap64 (a2 + t206)) - 53)) < (-1074)) = false := decide_eq_false c15
         clear c15
         (first | rw [c15b0] | (simp only [i64_w, i32_w]; rw [c15b0]) | skip)
         have H' := zA H
         clear H
         go_wp2
         go_meet
         case rel => exact ⟨_, (wrap64 ((wrap64 (a2 + t206)) - 53)), (by first | rfl | (simp; done) | (simp [*]; done)), H', ⟨by have := HJ4.out; have := HJ7.out; first | omega | exact Nat.le_refl _⟩, ⟨by repeat (first | (with_reducible first | exact HB.out | apply zaq | apply zbq | apply zcq) | exact HB.out)⟩⟩
       case rest =>
        clear HC14
        try clear c1
        try clear c2
        try clear p2
        try clear c5
        try clear c6
        try clear p6
        try clear c10
        try clear c10b0
        try clear c10b1
        try clear c11
        try clear c11b0
        try clear c12
        try clear c13
        try clear c13b0
        try clear c15
        try clear c15b0
        try clear p2
        try clear p6
        obtain ⟨kq, x11_13, rfl, HA, HJ13, HB⟩ := hcut
        cases kq with
        | zero => exact absurd HA.out (by simp [tabardref3_Round.j2])
        | succ kj13 =>
         have H := HA.out
         clear HA
         simp only [tabardref3_Round.j2] at H
         have HC16 := zA H
         clear H
         go_upto_if 44 with (fail)
         go_cut [12] (fun v12 wc => ∃ (kq : Nat) (x12_15 : Int), v12 = .int .u64 x12_15 ∧ Aside0 (tabardref3_Round.j3 kq x9_4 x11_13 x12_15 = some r) ∧ Aside0 (kq ≤ kj13) ∧ Aside0 (Below w.heap.size w wc))
         case first =>
          have H := HC16.out
          clear HC16
          by_cases c17 : x11_13 ≤ a2
          ·
           rw [if_pos c17] at H
           have c17b0 : decide (x11_13 ≤ a2) = true := decide_eq_true c17
           clear c17
           (first | rw [c17b0] | (simp only [i64_w, i32_w]; rw [c17b0]) | skip)
           replace H := Option.bind_eq_some_iff.mp H
           obtain ⟨t207, A180, H⟩ := H
           replace H : ((tabardref3_from.f kj13 t207 0).bind fun t210 => (tabardref3_Round.j3 kj13 x9_4 x11_13 t210)) = some r := H
           have A18 := zA A180
           clear A180
           replace H := Option.bind_eq_some_iff.mp H
           obtain ⟨t210, A190, H⟩ := H
           replace H : (tabardref3_Round.j3 kj13 x9_4 x11_13 t210) = some r := H
           have A19 := zA A190
           clear A190
           have H' := zA H
           clear H
           go_wp2_with (first | ((with_reducible refine zoq (f := 75) rfl ?_); refine goesL_ (some 49) rfl rfl Try.func75 (by kernel_rfl) rfl #[.slice A1 l1.length c1, .int .i64 (wrap64 (a2 - x11_13))] rfl (by (try simp only [List.map_toArray, List.map_cons, List.map_nil]); first | done | rfl | (simp only [List.length_drop, List.length_take]; rfl)) ?_; (with_reducible refine (tabardref3_Up.calls kj13 _ _ l1 (wrap64 (a2 - x11_13)) t207 _ ?side1 ?side2 A18.out).mono ?_); (case side1 => repeat (first | exact (Kd.C_below HR1.out HB.out) | (with_reducible refine Kd.C_alloc ?_ _) | (with_reducible refine Kd.C_drewN ?_ _) | (with_reducible refine Kd.C_drew ?_))); (case side2 => exact HC1.out); rintro e w20 ⟨v208, rfl, ho0, hb⟩; refine ⟨_, rfl, ?_⟩; have n0_ := zA (Kd.R_lower ho0 (zfq (by repeat (first | (with_reducible first | exact HB.out | apply zaq | apply zbq | apply zcq) | exact HB.out)))); have n1_ := zA (zeq (by repeat (first | (with_reducible first | exact HB.out | apply zaq | apply zbq | apply zcq) | exact HB.out)) hb); clear HB; have HO209 := n0_; have HB := n1_; clear n0_ n1_; (try clear hb); (try clear hb2); (try clear hk); (try clear hi); (try clear ho0); obtain ⟨Ao21, co21, eo21⟩ := Kd.R_slice HO209.out; subst eo21) | ((with_reducible refine zoq (f := 74) rfl ?_); refine goesL_ (some 50) rfl rfl Try.func74 (by kernel_rfl) rfl #[.slice Ao21 t207.length co21, .int .i64 0] rfl (by (try simp only [List.map_toArray, List.map_cons, List.map_nil]); first | done | rfl | (simp only [List.length_drop, List.length_take]; rfl)) ?_; (with_reducible refine (tabardref3_from.calls kj13 _ _ t207 0 t210 _ ?side1 ?side2 A19.out).mono ?_); (case side1 => repeat (first | exact (Kd.R_reads' HO209.out).2.2 | (with_reducible refine Kd.C_alloc ?_ _) | (with_reducible refine Kd.C_drewN ?_ _) | (with_reducible refine Kd.C_drew ?_))); (case side2 => exact (Kd.R_reads' HO209.out).2.1); rintro e w' ⟨rfl, ⟨nd, rfl⟩⟩; refine ⟨_, rfl, ?_⟩))
           go_meet
           case rel => exact ⟨_, (t210), (by first | rfl | (simp; done) | (simp [*]; done)), H', ⟨by have := HJ4.out; have := HJ7.out; have := HJ13.out; first | omega | exact Nat.le_refl _⟩, ⟨by repeat (first | (with_reducible first | exact HB.out | apply zaq | apply zbq | apply zcq) | exact HB.out)⟩⟩
          ·
           rw [if_neg c17] at H
           have c17b0 : decide (x11_13 ≤ a2) = false := decide_eq_false c17
           clear c17
           (first | rw [c17b0] | (simp only [i64_w, i32_w]; rw [c17b0]) | skip)
           replace H := Option.bind_eq_some_iff.mp H
           obtain ⟨t211, A220, H⟩ := H
           replace H : ((tabardref1_Bit.f l1 (wrap64 ((wrap64 (x11_13 - a2)) - 1))).bind fun t212 => ((tabardref3_low.f kj13 l1 (wrap64 ((wrap64 (x11_13 - a2)) - 1))).bind fun t213 => (if t213 = true then (if t212 = true then (tabardref3_Round.j3 kj13 x9_4 x11_13 (IntKind.u64.wrap (t211 + 1))) else (tabardref3_Round.j3 kj13 x9_4 x11_13 t211)) else (if t212 = true then (if a3 = true then (tabardref3_Round.j3 kj13 x9_4 x11_13 (IntKind.u64.wrap (t211 + 1))) else (if (Int.tmod t211 2) = 1 then (tabardref3_Round.j3 kj13 x9_4 x11_13 (IntKind.u64.wrap (t211 + 1))) else (tabardref3_Round.j3 kj13 x9_4 x11_13 t211))) else (tabardref3_Round.j3 kj13 x9_4 x11_13 t211))))) = some r := H
           have A22 := zA A220
           clear A220
           replace H := Option.bind_eq_some_iff.mp H
           obtain ⟨t212, A230, H⟩ := H
           replace H : ((tabardref3_low.f kj13 l1 (wrap64 ((wrap64 (x11_13 - a2)) - 1))).bind fun t213 => (if t213 = true then (if t212 = true then (tabardref3_Round.j3 kj13 x9_4 x11_13 (IntKind.u64.wrap (t211 + 1))) else (tabardref3_Round.j3 kj13 x9_4 x11_13 t211)) else (if t212 = true then (if a3 = true then (tabardref3_Round.j3 kj13 x9_4 x11_13 (IntKind.u64.wrap (t211 + 1))) else (if (Int.tmod t211 2) = 1 then (tabardref3_Round.j3 kj13 x9_4 x11_13 (IntKind.u64.wrap (t211 + 1))) else (tabardref3_Round.j3 kj13 x9_4 x11_13 t211))) else (tabardref3_Round.j3 kj13 x9_4 x11_13 t211)))) = some r := H
           have A23 := zA A230
           clear A230
           replace H := Option.bind_eq_some_iff.mp H
           obtain ⟨t213, A240, H⟩ := H
           replace H : (if t213 = true then (if t212 = true then (tabardref3_Round.j3 kj13 x9_4 x11_13 (IntKind.u64.wrap (t211 + 1))) else (tabardref3_Round.j3 kj13 x9_4 x11_13 t211)) else (if t212 = true then (if a3 = true then (tabardref3_Round.j3 kj13 x9_4 x11_13 (IntKind.u64.wrap (t211 + 1))) else (if (Int.tmod t211 2) = 1 then (tabardref3_Round.j3 kj13 x9_4 x11_13 (IntKind.u64.wrap (t211 + 1))) else (tabardref3_Round.j3 kj13 x9_4 x11_13 t211))) else (tabardref3_Round.j3 kj13 x9_4 x11_13 t211))) = some r := H
           have A24 := zA A240
           clear A240
           by_cases c25 : t213 = true
           ·
            subst c25
            have H1 : (if t212 = true then (tabardref3_Round.j3 kj13 x9_4 x11_13 (IntKind.u64.wrap (t211 + 1))) else (tabardref3_Round.j3 kj13 x9_4 x11_13 t211)) = some r := by rw [if_pos rfl] at H; exact H
            clear H
            have H := H1
            clear H1
            by_cases c26 : t212 = true
            ·
             subst c26
             have H1 : (tabardref3_Round.j3 kj13 x9_4 x11_13 (IntKind.u64.wrap (t211 + 1))) = some r := by rw [if_pos rfl] at H; exact H
             clear H
             have H := H1
             clear H1
             have H' := zA H
             clear H
             go_wp2_with (first | ((with_reducible refine zoq (f := 74) rfl ?_); refine goesL_ (some 56) rfl rfl Try.func74 (by kernel_rfl) rfl #[.slice A1 l1.length c1, .int .i64 (wrap64 (x11_13 - a2))] rfl (by (try simp only [List.map_toArray, List.map_cons, List.map_nil]); first | done | rfl | (simp only [List.length_drop, List.length_take]; rfl)) ?_; (with_reducible refine (tabardref3_from.calls kj13 _ _ l1 (wrap64 (x11_13 - a2)) t211 _ ?side1 ?side2 A22.out).mono ?_); (case side1 => repeat (first | exact (Kd.C_below HR1.out HB.out) | (with_reducible refine Kd.C_alloc ?_ _) | (with_reducible refine Kd.C_drewN ?_ _) | (with_reducible refine Kd.C_drew ?_))); (case side2 => exact HC1.out); rintro e w' ⟨rfl, ⟨nd, rfl⟩⟩; refine ⟨_, rfl, ?_⟩) | ((with_reducible refine zoq (f := 76) rfl ?_); refine goesL_ (some 60) rfl rfl Try.func76 (by kernel_rfl) rfl #[.slice A1 l1.length c1, .int .i64 (wrap64 ((wrap64 (x11_13 - a2)) - 1))] rfl (by (try simp only [List.map_toArray, List.map_cons, List.map_nil]); first | done | rfl | (simp only [List.length_drop, List.length_take]; rfl)) ?_; (with_reducible refine (tabardref1_Bit.calls _ _ l1 (wrap64 ((wrap64 (x11_13 - a2)) - 1)) true _ ?side1 ?side2 A23.out).mono ?_); (case side1 => repeat (first | exact (Kd.C_below HR1.out (by repeat (first | (with_reducible first | exact HB.out | apply zaq | apply zbq | apply zcq) | exact HB.out))) | (with_reducible refine Kd.C_alloc ?_ _) | (with_reducible refine Kd.C_drewN ?_ _) | (with_reducible refine Kd.C_drew ?_))); (case side2 => exact HC1.out); rintro e w' ⟨rfl, ⟨nd, rfl⟩⟩; refine ⟨_, rfl, ?_⟩) | ((with_reducible refine zoq (f := 77) rfl ?_); refine goesL_ (some 64) rfl rfl Try.func77 (by kernel_rfl) rfl #[.slice A1 l1.length c1, .int .i64 (wrap64 ((wrap64 (x11_13 - a2)) - 1))] rfl (by (try simp only [List.map_toArray, List.map_cons, List.map_nil]); first | done | rfl | (simp only [List.length_drop, List.length_take]; rfl)) ?_; (with_reducible refine (tabardref3_low.calls kj13 _ _ l1 (wrap64 ((wrap64 (x11_13 - a2)) - 1)) true _ ?side1 ?side2 A24.out).mono ?_); (case side1 => repeat (first | exact (Kd.C_below HR1.out (by repeat (first | (with_reducible first | exact HB.out | apply zaq | apply zbq | apply zcq) | exact HB.out))) | (with_reducible refine Kd.C_alloc ?_ _) | (with_reducible refine Kd.C_drewN ?_ _) | (with_reducible refine Kd.C_drew ?_))); (case side2 => exact HC1.out); rintro e w' ⟨rfl, ⟨nd, rfl⟩⟩; refine ⟨_, rfl, ?_⟩))
             go_meet
             case rel => exact ⟨_, (IntKind.u64.wrap (t211 + 1)), (by first | rfl | (simp; done) | (simp [*]; done)), H', ⟨by have := HJ4.out; have := HJ7.out; have := HJ13.out; first | omega | exact Nat.le_refl _⟩, ⟨by repeat (first | (with_reducible first | exact HB.out | apply zaq | apply zbq | apply zcq) | exact HB.out)⟩⟩
            ·
             replace c26 := Bool.eq_false_iff.mpr c26
             subst c26
             have H1 : (tabardref3_Round.j3 kj13 x9_4 x11_13 t211) = some r := by rw [if_neg (show ¬ (false = true) by decide)] at H; exact H
             clear H
             have H := H1
             clear H1
             have H' := zA H
             clear H
             go_wp2_with (first | ((with_reducible refine zoq (f := 74) rfl ?_); refine goesL_ (some 56) rfl rfl Try.func74 (by kernel_rfl) rfl #[.slice A1 l1.length c1, .int .i64 (wrap64 (x11_13 - a2))] rfl (by (try simp only [List.map_toArray, List.map_cons, List.map_nil]); first | done | rfl | (simp only [List.length_drop, List.length_take]; rfl)) ?_; (with_reducible refine (tabardref3_from.calls kj13 _ _ l1 (wrap64 (x11_13 - a2)) t211 _ ?side1 ?side2 A22.out).mono ?_); (case side1 => repeat (first | exact (Kd.C_below HR1.out HB.out) | (with_reducible refine Kd.C_alloc ?_ _) | (with_reducible refine Kd.C_drewN ?_ _) | (with_reducible refine Kd.C_drew ?_))); (case side2 => exact HC1.out); rintro e w' ⟨rfl, ⟨nd, rfl⟩⟩; refine ⟨_, rfl, ?_⟩) | ((with_reducible refine zoq (f := 76) rfl ?_); refine goesL_ (some 60) rfl rfl Try.func76 (by kernel_rfl) rfl #[.slice A1 l1.length c1, .int .i64 (wrap64 ((wrap64 (x11_13 - a2)) - 1))] rfl (by (try simp only [List.map_toArray, List.map_cons, List.map_nil]); first | done | rfl | (simp only [List.length_drop, List.length_take]; rfl)) ?_; (with_reducible refine (tabardref1_Bit.calls _ _ l1 (wrap64 ((wrap64 (x11_13 - a2)) - 1)) false _ ?side1 ?side2 A23.out).mono ?_); (case side1 => repeat (first | exact (Kd.C_below HR1.out (by repeat (first | (with_reducible first | exact HB.out | apply zaq | apply zbq | apply zcq) | exact HB.out))) | (with_reducible refine Kd.C_alloc ?_ _) | (with_reducible refine Kd.C_drewN ?_ _) | (with_reducible refine Kd.C_drew ?_))); (case side2 => exact HC1.out); rintro e w' ⟨rfl, ⟨nd, rfl⟩⟩; refine ⟨_, rfl, ?_⟩) | ((with_reducible refine zoq (f := 77) rfl ?_); refine goesL_ (some 64) rfl rfl Try.func77 (by kernel_rfl) rfl #[.slice A1 l1.length c1, .int .i64 (wrap64 ((wrap64 (x11_13 - a2)) - 1))] rfl (by (try simp only [List.map_toArray, List.map_cons, List.map_nil]); first | done | rfl | (simp only [List.length_drop, List.length_take]; rfl)) ?_; (with_reducible refine (tabardref3_low.calls kj13 _ _ l1 (wrap64 ((wrap64 (x11_13 - a2)) - 1)) true _ ?side1 ?side2 A24.out).mono ?_); (case side1 => repeat (first | exact (Kd.C_below HR1.out (by repeat (first | (with_reducible first | exact HB.out | apply zaq | apply zbq | apply zcq) | exact HB.out))) | (with_reducible refine Kd.C_alloc ?_ _) | (with_reducible refine Kd.C_drewN ?_ _) | (with_reducible refine Kd.C_drew ?_))); (case side2 => exact HC1.out); rintro e w' ⟨rfl, ⟨nd, rfl⟩⟩; refine ⟨_, rfl, ?_⟩))
             go_meet
             case rel => exact ⟨_, (t211), (by first | rfl | (simp; done) | (simp [*]; done)), H', ⟨by have := HJ4.out; have := HJ7.out; have := HJ13.out; first | omega | exact Nat.le_refl _⟩, ⟨by repeat (first | (with_reducible first | exact HB.out | apply zaq | apply zbq | apply zcq) | exact HB.out)⟩⟩
           ·
            replace c25 := Bool.eq_false_iff.mpr c25
            subst c25
            have H1 : (if t212 = true then (if a3 = true then (tabardref3_Round.j3 kj13 x9_4 x11_13 (IntKind.u64.wrap (t211 + 1))) else (if (Int.tmod t211 2) = 1 then (tabardref3_Round.j3 kj13 x9_4 x11_13 (IntKind.u64.wrap (t211 + 1))) else (tabardref3_Round.j3 kj13 x9_4 x11_13 t211))) else (tabardref3_Round.j3 kj13 x9_4 x11_13 t211)) = some r := by rw [if_neg (show ¬ (false = true) by decide)] at H; exact H
            clear H
            have H := H1
            clear H1
            by_cases c27 : t212 = true
            ·
             subst c27
             have H1 : (if a3 = true then (tabardref3_Round.j3 kj13 x9_4 x11_13 (IntKind.u64.wrap (t211 + 1))) else (if (Int.tmod t211 2) = 1 then (tabardref3_Round.j3 kj13 x9_4 x11_13 (IntKind.u64.wrap (t211 + 1))) else (tabardref3_Round.j3 kj13 x9_4 x11_13 t211))) = some r := by rw [if_pos rfl] at H; exact H
             clear H
             have H := H1
             clear H1
             by_cases c28 : a3 = true
             ·
              subst c28
              have H1 : (tabardref3_Round.j3 kj13 x9_4 x11_13 (IntKind.u64.wrap (t211 + 1))) = some r := by rw [if_pos rfl] at H; exact H
              clear H
              have H := H1
              clear H1
              have H' := zA H
              clear H
              go_wp2_with (first | ((with_reducible refine zoq (f := 74) rfl ?_); refine goesL_ (some 56) rfl rfl Try.func74 (by kernel_rfl) rfl #[.slice A1 l1.length c1, .int .i64 (wrap64 (x11_13 - a2))] rfl (by (try simp only [List.map_toArray, List.map_cons, List.map_nil]); first | done | rfl | (simp only [List.length_drop, List.length_take]; rfl)) ?_; (with_reducible refine (tabardref3_from.calls kj13 _ _ l1 (wrap64 (x11_13 - a2)) t211 _ ?side1 ?side2 A22.out).mono ?_); (case side1 => repeat (first | exact (Kd.C_below HR1.out HB.out) | (with_reducible refine Kd.C_alloc ?_ _) | (with_reducible refine Kd.C_drewN ?_ _) | (with_reducible refine Kd.C_drew ?_))); (case side2 => exact HC1.out); rintro e w' ⟨rfl, ⟨nd, rfl⟩⟩; refine ⟨_, rfl, ?_⟩) | ((with_reducible refine zoq (f := 76) rfl ?_); refine goesL_ (some 60) rfl rfl Try.func76 (by kernel_rfl) rfl #[.slice A1 l1.length c1, .int .i64 (wrap64 ((wrap64 (x11_13 - a2)) - 1))] rfl (by (try simp only [List.map_toArray, List.map_cons, List.map_nil]); first | done | rfl | (simp only [List.length_drop, List.length_take]; rfl)) ?_; (with_reducible refine (tabardref1_Bit.calls _ _ l1 (wrap64 ((wrap64 (x11_13 - a2)) - 1)) true _ ?side1 ?side2 A23.out).mono ?_); (case side1 => repeat (first | exact (Kd.C_below HR1.out (by repeat (first | (with_reducible first | exact HB.out | apply zaq | apply zbq | apply zcq) | exact HB.out))) | (with_reducible refine Kd.C_alloc ?_ _) | (with_reducible refine Kd.C_drewN ?_ _) | (with_reducible refine Kd.C_drew ?_))); (case side2 => exact HC1.out); rintro e w' ⟨rfl, ⟨nd, rfl⟩⟩; refine ⟨_, rfl, ?_⟩) | ((with_reducible refine zoq (f := 77) rfl ?_); refine goesL_ (some 64) rfl rfl Try.func77 (by kernel_rfl) rfl #[.slice A1 l1.length c1, .int .i64 (wrap64 ((wrap64 (x11_13 - a2)) - 1))] rfl (by (try simp only [List.map_toArray, List.map_cons, List.map_nil]); first | done | rfl | (simp only [List.length_drop, List.length_take]; rfl)) ?_; (with_reducible refine (tabardref3_low.calls kj13 _ _ l1 (wrap64 ((wrap64 (x11_13 - a2)) - 1)) false _ ?side1 ?side2 A24.out).mono ?_); (case side1 => repeat (first | exact (Kd.C_below HR1.out (by repeat (first | (with_reducible first | exact HB.out | apply zaq | apply zbq | apply zcq) | exact HB.out))) | (with_reducible refine Kd.C_alloc ?_ _) | (with_reducible refine Kd.C_drewN ?_ _) | (with_reducible refine Kd.C_drew ?_))); (case side2 => exact HC1.out); rintro e w' ⟨rfl, ⟨nd, rfl⟩⟩; refine ⟨_, rfl, ?_⟩))
              go_meet
              case rel => exact ⟨_, (IntKind.u64.wrap (t211 + 1)), (by first | rfl | (simp; done) | (simp [*]; done)), H', ⟨by have := HJ4.out; have := HJ7.out; have := HJ13.out; first | omega | exact Nat.le_refl _⟩, ⟨by repeat (first | (with_reducible first | exact HB.out | apply zaq | apply zbq | apply zcq) | exact HB.out)⟩⟩
             ·
              replace c28 := Bool.eq_false_iff.mpr c28
              subst c28
              have H1 : (if (Int.tmod t211 2) = 1 then (tabardref3_Round.j3 kj13 x9_4 x11_13 (IntKind.u64.wrap (t211 + 1))) else (tabardref3_Round.j3 kj13 x9_4 x11_13 t211)) = some r := by rw [if_neg (show ¬ (false = true) by decide)] at H; exact H
              clear H
              have H := H1
              clear H1
              by_cases c29 : (Int.tmod t211 2) = 1
              ·
               rw [if_pos c29] at H
               have c29b0 : ((Int.tmod t211 2) == 1) = true := beq_iff_eq.mpr c29
               have c29b1 : ((Int.tmod t211 2) != 1) = false := bne_eq_false_iff_eq.mpr c29
               clear c29
               have H' := zA H
               clear H
               go_wp2_with (first | ((with_reducible refine zoq (f := 74) rfl ?_); refine goesL_ (some 56) rfl rfl Try.func74 (by kernel_rfl) rfl #[.slice A1 l1.length c1, .int .i64 (wrap64 (x11_13 - a2))] rfl (by (try simp only [List.map_toArray, List.map_cons, List.map_nil]); first | done | rfl | (simp only [List.length_drop, List.length_take]; rfl)) ?_; (with_reducible refine (tabardref3_from.calls kj13 _ _ l1 (wrap64 (x11_13 - a2)) t211 _ ?side1 ?side2 A22.out).mono ?_); (case side1 => repeat (first | exact (Kd.C_below HR1.out HB.out) | (with_reducible refine Kd.C_alloc ?_ _) | (with_reducible refine Kd.C_drewN ?_ _) | (with_reducible refine Kd.C_drew ?_))); (case side2 => exact HC1.out); rintro e w' ⟨rfl, ⟨nd, rfl⟩⟩; refine ⟨_, rfl, ?_⟩) | ((with_reducible refine zoq (f := 76) rfl ?_); refine goesL_ (some 60) rfl rfl Try.func76 (by kernel_rfl) rfl #[.slice A1 l1.length c1, .int .i64 (wrap64 ((wrap64 (x11_13 - a2)) - 1))] rfl (by (try simp only [List.map_toArray, List.map_cons, List.map_nil]); first | done | rfl | (simp only [List.length_drop, List.length_take]; rfl)) ?_; (with_reducible refine (tabardref1_Bit.calls _ _ l1 (wrap64 ((wrap64 (x11_13 - a2)) - 1)) true _ ?side1 ?side2 A23.out).mono ?_); (case side1 => repeat (first | exact (Kd.C_below HR1.out (by repeat (first | (with_reducible first | exact HB.out | apply zaq | apply zbq | apply zcq) | exact HB.out))) | (with_reducible refine Kd.C_alloc ?_ _) | (with_reducible refine Kd.C_drewN ?_ _) | (with_reducible refine Kd.C_drew ?_))); (case side2 => exact HC1.out); rintro e w' ⟨rfl, ⟨nd, rfl⟩⟩; refine ⟨_, rfl, ?_⟩) | ((with_reducible refine zoq (f := 77) rfl ?_); refine goesL_ (some 64) rfl rfl Try.func77 (by kernel_rfl) rfl #[.slice A1 l1.length c1, .int .i64 (wrap64 ((wrap64 (x11_13 - a2)) - 1))] rfl (by (try simp only [List.map_toArray, List.map_cons, List.map_nil]); first | done | rfl | (simp only [List.length_drop, List.length_take]; rfl)) ?_; (with_reducible refine (tabardref3_low.calls kj13 _ _ l1 (wrap64 ((wrap64 (x11_13 - a2)) - 1)) false _ ?side1 ?side2 A24.out).mono ?_); (case side1 => repeat (first | exact (Kd.C_below HR1.out (by repeat (first | (with_reducible first | exact HB.out | apply zaq | apply zbq | apply zcq) | exact HB.out))) | (with_reducible refine Kd.C_alloc ?_ _) | (with_reducible refine Kd.C_drewN ?_ _) | (with_reducible refine Kd.C_drew ?_))); (case side2 => exact HC1.out); rintro e w' ⟨rfl, ⟨nd, rfl⟩⟩; refine ⟨_, rfl, ?_⟩))
               go_meet
               case rel => exact ⟨_, (IntKind.u64.wrap (t211 + 1)), (by first | rfl | (simp; done) | (simp [*]; done)), H', ⟨by have := HJ4.out; have := HJ7.out; have := HJ13.out; first | omega | exact Nat.le_refl _⟩, ⟨by repeat (first | (with_reducible first | exact HB.out | apply zaq | apply zbq | apply zcq) | exact HB.out)⟩⟩
              ·
               rw [if_neg c29] at H
               have c29b0 : ((Int.tmod t211 2) == 1) = false := beq_eq_false_iff_ne.mpr c29
               have c29b1 : ((Int.tmod t211 2) != 1) = true := bne_iff_ne.mpr c29
               have H' := zA H
               clear H
               go_wp2_with (first | ((with_reducible refine zoq (f := 74) rfl ?_); refine goesL_ (some 56) rfl rfl Try.func74 (by kernel_rfl) rfl #[.slice A1 l1.length c1, .int .i64 (wrap64 (x11_13 - a2))] rfl (by (try simp only [List.map_toArray, List.map_cons, List.map_nil]); first | done | rfl | (simp only [List.length_drop, List.length_take]; rfl)) ?_; (with_reducible refine (tabardref3_from.calls kj13 _ _ l1 (wrap64 (x11_13 - a2)) t211 _ ?side1 ?side2 A22.out).mono ?_); (case side1 => repeat (first | exact (Kd.C_below HR1.out HB.out) | (with_reducible refine Kd.C_alloc ?_ _) | (with_reducible refine Kd.C_drewN ?_ _) | (with_reducible refine Kd.C_drew ?_))); (case side2 => exact HC1.out); rintro e w' ⟨rfl, ⟨nd, rfl⟩⟩; refine ⟨_, rfl, ?_⟩) | ((with_reducible refine zoq (f := 76) rfl ?_); refine goesL_ (some 60) rfl rfl Try.func76 (by kernel_rfl) rfl #[.slice A1 l1.length c1, .int .i64 (wrap64 ((wrap64 (x11_13 - a2)) - 1))] rfl (by (try simp only [List.map_toArray, List.map_cons, List.map_nil]); first | done | rfl | (simp only [List.length_drop, List.length_take]; rfl)) ?_; (with_reducible refine (tabardref1_Bit.calls _ _ l1 (wrap64 ((wrap64 (x11_13 - a2)) - 1)) true _ ?side1 ?side2 A23.out).mono ?_); (case side1 => repeat (first | exact (Kd.C_below HR1.out (by repeat (first | (with_reducible first | exact HB.out | apply zaq | apply zbq | apply zcq) | exact HB.out))) | (with_reducible refine Kd.C_alloc ?_ _) | (with_reducible refine Kd.C_drewN ?_ _) | (with_reducible refine Kd.C_drew ?_))); (case side2 => exact HC1.out); rintro e w' ⟨rfl, ⟨nd, rfl⟩⟩; refine ⟨_, rfl, ?_⟩) | ((with_reducible refine zoq (f := 77) rfl ?_); refine goesL_ (some 64) rfl rfl Try.func77 (by kernel_rfl) rfl #[.slice A1 l1.length c1, .int .i64 (wrap64 ((wrap64 (x11_13 - a2)) - 1))] rfl (by (try simp only [List.map_toArray, List.map_cons, List.map_nil]); first | done | rfl | (simp only [List.length_drop, List.length_take]; rfl)) ?_; (with_reducible refine (tabardref3_low.calls kj13 _ _ l1 (wrap64 ((wrap64 (x11_13 - a2)) - 1)) false _ ?side1 ?side2 A24.out).mono ?_); (case side1 => repeat (first | exact (Kd.C_below HR1.out (by repeat (first | (with_reducible first | exact HB.out | apply zaq | apply zbq | apply zcq) | exact HB.out))) | (with_reducible refine Kd.C_alloc ?_ _) | (with_reducible refine Kd.C_drewN ?_ _) | (with_reducible refine Kd.C_drew ?_))); (case side2 => exact HC1.out); rintro e w' ⟨rfl, ⟨nd, rfl⟩⟩; refine ⟨_, rfl, ?_⟩))
               go_meet
               case rel => exact ⟨_, (t211), (by first | rfl | (simp; done) | (simp [*]; done)), H', ⟨by have := HJ4.out; have := HJ7.out; have := HJ13.out; first | omega | exact Nat.le_refl _⟩, ⟨by repeat (first | (with_reducible first | exact HB.out | apply zaq | apply zbq | apply zcq) | exact HB.out)⟩⟩
            ·
             replace c27 := Bool.eq_false_iff.mpr c27
             subst c27
             have H1 : (tabardref3_Round.j3 kj13 x9_4 x11_13 t211) = some r := by rw [if_neg (show ¬ (false = true) by decide)] at H; exact H
             clear H
             have H := H1
             clear H1
             have H' := zA H
             clear H
             go_wp2_with (first | ((with_reducible refine zoq (f := 74) rfl ?_); refine goesL_ (some 56) rfl rfl Try.func74 (by kernel_rfl) rfl #[.slice A1 l1.length c1, .int .i64 (wrap64 (x11_13 - a2))] rfl (by (try simp only [List.map_toArray, List.map_cons, List.map_nil]); first | done | rfl | (simp only [List.length_drop, List.length_take]; rfl)) ?_; (with_reducible refine (tabardref3_from.calls kj13 _ _ l1 (wrap64 (x11_13 - a2)) t211 _ ?side1 ?side2 A22.out).mono ?_); (case side1 => repeat (first | exact (Kd.C_below HR1.out HB.out) | (with_reducible refine Kd.C_alloc ?_ _) | (with_reducible refine Kd.C_drewN ?_ _) | (with_reducible refine Kd.C_drew ?_))); (case side2 => exact HC1.out); rintro e w' ⟨rfl, ⟨nd, rfl⟩⟩; refine ⟨_, rfl, ?_⟩) | ((with_reducible refine zoq (f := 76) rfl ?_); refine goesL_ (some 60) rfl rfl Try.func76 (by kernel_rfl) rfl #[.slice A1 l1.length c1, .int .i64 (wrap64 ((wrap64 (x11_13 - a2)) - 1))] rfl (by (try simp only [List.map_toArray, List.map_cons, List.map_nil]); first | done | rfl | (simp only [List.length_drop, List.length_take]; rfl)) ?_; (with_reducible refine (tabardref1_Bit.calls _ _ l1 (wrap64 ((wrap64 (x11_13 - a2)) - 1)) false _ ?side1 ?side2 A23.out).mono ?_); (case side1 => repeat (first | exact (Kd.C_below HR1.out (by repeat (first | (with_reducible first | exact HB.out | apply zaq | apply zbq | apply zcq) | exact HB.out))) | (with_reducible refine Kd.C_alloc ?_ _) | (with_reducible refine Kd.C_drewN ?_ _) | (with_reducible refine Kd.C_drew ?_))); (case side2 => exact HC1.out); rintro e w' ⟨rfl, ⟨nd, rfl⟩⟩; refine ⟨_, rfl, ?_⟩) | ((with_reducible refine zoq (f := 77) rfl ?_); refine goesL_ (some 64) rfl rfl Try.func77 (by kernel_rfl) rfl #[.slice A1 l1.length c1, .int .i64 (wrap64 ((wrap64 (x11_13 - a2)) - 1))] rfl (by (try simp only [List.map_toArray, List.map_cons, List.map_nil]); first | done | rfl | (simp only [List.length_drop, List.length_take]; rfl)) ?_; (with_reducible refine (tabardref3_low.calls kj13 _ _ l1 (wrap64 ((wrap64 (x11_13 - a2)) - 1)) false _ ?side1 ?side2 A24.out).mono ?_); (case side1 => repeat (first | exact (Kd.C_below HR1.out (by repeat (first | (with_reducible first | exact HB.out | apply zaq | apply zbq | apply zcq) | exact HB.out))) | (with_reducible refine Kd.C_alloc ?_ _) | (with_reducible refine Kd.C_drewN ?_ _) | (with_reducible refine Kd.C_drew ?_))); (case side2 => exact HC1.out); rintro e w' ⟨rfl, ⟨nd, rfl⟩⟩; refine ⟨_, rfl, ?_⟩))
             go_meet
             case rel => exact ⟨_, (t211), (by first | rfl | (simp; done) | (simp [*]; done)), H', ⟨by have := HJ4.out; have := HJ7.out; have := HJ13.out; first | omega | exact Nat.le_refl _⟩, ⟨by repeat (first | (with_reducible first | exact HB.out | apply zaq | apply zbq | apply zcq) | exact HB.out)⟩⟩
         case rest =>
          clear HC16
          try clear c1
          try clear c2
          try clear p2
          try clear c5
          try clear c6
          try clear p6
          try clear c7
          try clear c10
          try clear c10b0
          try clear c10b1
          try clear c11
          try clear c11b0
          try clear c12
          try clear c13
          try clear c13b0
          try clear c15
          try clear c15b0
          try clear c17
          try clear c17b0
          try clear c21
          try clear c25
          try clear c26
          try clear c27
          try clear c28
          try clear c29
          try clear c29b0
          try clear c29b1
          try clear p2
          try clear p6
          obtain ⟨kq, x12_15, rfl, HA, HJ15, HB⟩ := hcut
          cases kq with
          | zero => exact absurd HA.out (by simp [tabardref3_Round.j3])
          | succ kj15 =>
           have H := HA.out
           clear HA
           simp only [tabardref3_Round.j3] at H
           have HC30 := zA H
           clear H
           go_upto_if 80 with (fail)
           go_cut [11, 12] (fun v11 v12 wc => ∃ (kq : Nat) (x11_29 : Int) (x12_29 : Int), v11 = .int .i64 x11_29 ∧ v12 = .int .u64 x12_29 ∧ Aside0 (tabardref3_Round.j4 kq x9_4 x11_29 x12_29 = some r) ∧ Aside0 (kq ≤ kj15) ∧ Aside0 (Below w.heap.size w wc))
           case first =>
            have H := HC30.out
            clear HC30
            by_cases c31 : x12_15 = 9007199254740992
            ·
             rw [if_pos c31] at H
             have c31b0 : (x12_15 == 9007199254740992) = true := beq_iff_eq.mpr c31
             have c31b1 : (x12_15 != 9007199254740992) = false := bne_eq_false_iff_eq.mpr c31
             clear c31
             (first | rw [c31b0] | (simp only [i64_w, i32_w]; rw [c31b0]) | skip)
             have H' := zA H
             clear H
             go_wp2
             go_meet
             case rel => exact ⟨_, (wrap64 (x11_13 + 1)), (4503599627370496), (by first | rfl | (simp; done) | (simp [*]; done)), (by first | rfl | (simp; done) | (simp [*]; done)), H', ⟨by have := HJ4.out; have := HJ7.out; have := HJ13.out; have := HJ15.out; first | omega | exact Nat.le_refl _⟩, ⟨by repeat (first | (with_reducible first | exact HB.out | apply zaq | apply zbq | apply zcq) | exact HB.out)⟩⟩
            ·
             rw [if_neg c31] at H
             have c31b0 : (x12_15 == 9007199254740992) = false := beq_eq_false_iff_ne.mpr c31
             have c31b1 : (x12_15 != 9007199254740992) = true := bne_iff_ne.mpr c31
             (first | rw [c31b0] | (simp only [i64_w, i32_w]; rw [c31b0]) | skip)
             have H' := zA H
             clear H
             go_wp2
             go_meet
             case rel => exact ⟨_, (x11_13), (x12_15), (by first | rfl | (simp; done) | (simp [*]; done)), (by first | rfl | (simp; done) | (simp [*]; done)), H', ⟨by have := HJ4.out; have := HJ7.out; have := HJ13.out; have := HJ15.out; first | omega | exact Nat.le_refl _⟩, ⟨by repeat (first | (with_reducible first | exact HB.out | apply zaq | apply zbq | apply zcq) | exact HB.out)⟩⟩
           case rest =>
            clear HC30
            try clear c1
            try clear c2
            try clear p2
            try clear c3
            try clear c5
            try clear c6
            try clear p6
            try clear c7
            try clear c10
            try clear c10b0
            try clear c10b1
            try clear c11
            try clear c11b0
            try clear c12
            try clear c13
            try clear c13b0
            try clear c15
            try clear c15b0
            try clear c17
            try clear c17b0
            try clear c21
            try clear c25
            try clear c26
            try clear c27
            try clear c28
            try clear c29
            try clear c29b0
            try clear c29b1
            try clear c31
            try clear c31b0
            try clear c31b1
            try clear p2
            try clear p6
            obtain ⟨kq, x11_29, x12_29, rfl, rfl, HA, HJ29, HB⟩ := hcut
            cases kq with
            | zero => exact absurd HA.out (by simp [tabardref3_Round.j4])
            | succ kj29 =>
             have H := HA.out
             clear HA
             simp only [tabardref3_Round.j4] at H
             by_cases c32 : x12_29 < 4503599627370496
             ·
              rw [if_pos c32] at H
              have c32b0 : decide (x12_29 < 4503599627370496) = true := decide_eq_true c32
              clear c32
              obtain rfl := Option.some.inj H
              go_wp2
              go_ret
              exact ⟨by first | rfl | (simp [errW_none, errW_some] <;> rfl) | (simp [*, errW_none, errW_some] <;> rfl), by repeat (first | (with_reducible first | exact HB.out | apply zaq | apply zbq | apply zcq) | exact HB.out)⟩
             ·
              rw [if_neg c32] at H
              have c32b0 : decide (x12_29 < 4503599627370496) = false := decide_eq_false c32
              clear c32
              by_cases c33 : (wrap64 (x11_29 + 1075)) ≥ 2047
              ·
               rw [if_pos c33] at H
               have c33b0 : decide (2047 ≤ (wrap64 (x11_29 + 1075))) = true := decide_eq_true c33
               clear c33
               obtain rfl := Option.some.inj H
               go_wp2
               go_ret
               exact ⟨by first | rfl | (simp [errW_none, errW_some] <;> rfl) | (simp [*, errW_none, errW_some] <;> rfl), by repeat (first | (with_reducible first | exact HB.out | apply zaq | apply zbq | apply zcq) | exact HB.out)⟩
              ·
               rw [if_neg c33] at H
               have c33b0 : decide (2047 ≤ (wrap64 (x11_29 + 1075))) = false := decide_eq_false c33
               clear c33
               obtain rfl := Option.some.inj H
               go_wp2
               go_ret
               exact ⟨by first | rfl | (simp [errW_none, errW_some] <;> rfl) | (simp [*, errW_none, errW_some] <;> rfl), by repeat (first | (with_reducible first | exact HB.out | apply zaq | apply zbq | apply zcq) | exact HB.out)⟩

end Go.Proofs.Ytbejjlecpcphoaa.P
