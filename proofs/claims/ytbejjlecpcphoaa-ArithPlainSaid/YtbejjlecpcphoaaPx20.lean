-- Written by a program of this session's (a turned print), not by hand.
import Derived.Test.YtbejjlecpcphoaaPx0
import Derived.Test.YtbejjlecpcphoaaPx9
namespace Go.Proofs.Ytbejjlecpcphoaa.P
open Go.RowKit Go.Proofs.YtbejjlecpcphoaaW.PrintWords Go.Proofs.YtbejjlecpcphoaaW.PrintLast Go.Proofs.YtbejjlecpcphoaaW.PrintMore
attribute [local go_sem] max2_int min2_int max_two min_two max_three min_three max_four min_four   -- for this text's walks alone
set_option linter.unusedVariables false
set_option linter.unusedSimpArgs false

/-! ### tabardref3_Kind: function 29 -/
mutual
def tabardref3_Kind.j0 : Nat → Int → Int → Bool → Option (Int)
 | 0, _, _, _ => none
 | k + 1, x3, x4, x10 => if x10 = true then (some 3) else (if x3 = 2047 then (some 4) else (if x3 = 0 then (tabardref3_Kind.j1 k x3 (x4 == 0)) else (tabardref3_Kind.j1 k x3 false)))
def tabardref3_Kind.j1 : Nat → Int → Bool → Option (Int)
 | 0, _, _ => none
 | k + 1, x3, x20 => if x20 = true then (some 0) else (if x3 = 0 then (some 1) else (some 2))
end
def tabardref3_Kind.f (k : Nat) (a0 : Int) : Option (Int) := if (Int.tmod (a0 / 4503599627370496) 2048) = 2047 then (tabardref3_Kind.j0 k (Int.tmod (a0 / 4503599627370496) 2048) (Int.tmod a0 4503599627370496) ((Int.tmod a0 4503599627370496) == 0)) else (tabardref3_Kind.j0 k (Int.tmod (a0 / 4503599627370496) 2048) (Int.tmod a0 4503599627370496) false)
theorem tabardref3_Kind.mono_l : ∀ k, (∀ y0 y1 y2, LeO (tabardref3_Kind.j0 k y0 y1 y2) (tabardref3_Kind.j0 (k + 1) y0 y1 y2)) ∧ (∀ y0 y1, LeO (tabardref3_Kind.j1 k y0 y1) (tabardref3_Kind.j1 (k + 1) y0 y1))
 | 0 => ⟨fun _ _ _ r h => by simp [tabardref3_Kind.j0] at h, fun _ _ r h => by simp [tabardref3_Kind.j1] at h⟩
 | k + 1 => by
  obtain ⟨ih0, ih1⟩ := tabardref3_Kind.mono_l k
  refine ⟨?_, ?_⟩
  ·
   intro y0 y1 y2
   unfold tabardref3_Kind.j0
   repeat' first
   | (with_reducible exact ih0 _ _ _)
   | (with_reducible exact ih1 _ _)
   | (with_reducible exact LeO.refl _)
   | (with_reducible exact LeO.none _)
   | (with_reducible refine LeO.ite ?_ ?_)
   | (with_reducible refine LeO.bind ?_ (fun _ => ?_))
   | exact ih0 _ _ _
   | exact ih1 _ _
   | exact LeO.none _
   | refine LeO.ite ?_ ?_
   | refine LeO.bind ?_ (fun _ => ?_)
  ·
   intro y0 y1
   unfold tabardref3_Kind.j1
   repeat' first
   | (with_reducible exact ih0 _ _ _)
   | (with_reducible exact ih1 _ _)
   | (with_reducible exact LeO.refl _)
   | (with_reducible exact LeO.none _)
   | (with_reducible refine LeO.ite ?_ ?_)
   | (with_reducible refine LeO.bind ?_ (fun _ => ?_))
   | exact ih0 _ _ _
   | exact ih1 _ _
   | exact LeO.none _
   | refine LeO.ite ?_ ?_
   | refine LeO.bind ?_ (fun _ => ?_)
theorem tabardref3_Kind.mono : ∀ a0 k, LeO (tabardref3_Kind.f k a0) (tabardref3_Kind.f (k + 1) a0) := by
 intro a0 k
 obtain ⟨ih0, ih1⟩ := tabardref3_Kind.mono_l k
 unfold tabardref3_Kind.f
 repeat' first
   | (with_reducible exact ih0 _ _ _)
   | (with_reducible exact ih1 _ _)
   | (with_reducible exact LeO.refl _)
   | (with_reducible exact LeO.none _)
   | (with_reducible refine LeO.ite ?_ ?_)
   | (with_reducible refine LeO.bind ?_ (fun _ => ?_))
   | exact ih0 _ _ _
   | exact ih1 _ _
   | exact LeO.none _
   | refine LeO.ite ?_ ?_
   | refine LeO.bind ?_ (fun _ => ?_)
set_option maxHeartbeats 8000000 in
set_option maxRecDepth 100000 in
theorem tabardref3_Kind.calls (k : Nat) (a0 : Int) (r : Int) (w : World) (h : tabardref3_Kind.f k a0 = some r) :
  Calls Try.prog 29 #[.int .u64 a0] w fun e w' => e = .returned (.int .i64 r) ∧ Drawn0 w w' := by
 have H : (if (Int.tmod (a0 / 4503599627370496) 2048) = 2047 then (tabardref3_Kind.j0 k (Int.tmod (a0 / 4503599627370496) 2048) (Int.tmod a0 4503599627370496) ((Int.tmod a0 4503599627370496) == 0)) else (tabardref3_Kind.j0 k (Int.tmod (a0 / 4503599627370496) 2048) (Int.tmod a0 4503599627370496) false)) = some r := h
 clear h
 have HC2 := zA H
 clear H
 go_enter Try.func29, Try.ntmps29
 go_upto_region 3 with (fail)
 go_cut [10] (fun v10 wc => ∃ (kq : Nat) (x10_1 : Bool), v10 = .bool x10_1 ∧ Aside0 (tabardref3_Kind.j0 kq (Int.tmod (a0 / 4503599627370496) 2048) (Int.tmod a0 4503599627370496) x10_1 = some r) ∧ Aside0 (kq ≤ k) ∧ Drawn0 w wc)
 case first =>
  have H := HC2.out
  clear HC2
  by_cases c3 : (Int.tmod (a0 / 4503599627370496) 2048) = 2047
  ·
   rw [if_pos c3] at H
   have c3b0 : ((Int.tmod (a0 / 4503599627370496) 2048) == 2047) = true := beq_iff_eq.mpr c3
   have c3b1 : ((Int.tmod (a0 / 4503599627370496) 2048) != 2047) = false := bne_eq_false_iff_eq.mpr c3
   clear c3
   (first | rw [c3b0] | (simp only [i64_w, i32_w]; rw [c3b0]) | skip)
   have H' := zA H
   clear H
   go_wp2
   go_meet
   case rel => exact ⟨_, (((Int.tmod a0 4503599627370496) == 0)), (by first | rfl | (simp; done) | (simp [*]; done)), H', ⟨by first | omega | exact Nat.le_refl _⟩, by repeat (first | exact Drawn0.refl _ | apply Drawn0.step)⟩
  ·
   rw [if_neg c3] at H
   have c3b0 : ((Int.tmod (a0 / 4503599627370496) 2048) == 2047) = false := beq_eq_false_iff_ne.mpr c3
   have c3b1 : ((Int.tmod (a0 / 4503599627370496) 2048) != 2047) = true := bne_iff_ne.mpr c3
   (first | rw [c3b0] | (simp only [i64_w, i32_w]; rw [c3b0]) | skip)
   have H' := zA H
   clear H
   go_wp2
   go_meet
   case rel => exact ⟨_, (false), (by first | rfl | (simp; done) | (simp [*]; done)), H', ⟨by first | omega | exact Nat.le_refl _⟩, by repeat (first | exact Drawn0.refl _ | apply Drawn0.step)⟩
 case rest =>
  clear HC2
  try clear c2
  try clear p2
  try clear c3
  try clear c3b0
  try clear c3b1
  obtain ⟨kq, x10_1, rfl, HA, HJ1, ⟨mc1, rfl⟩⟩ := hcut
  cases kq with
  | zero => exact absurd HA.out (by simp [tabardref3_Kind.j0])
  | succ kj1 =>
   have H := HA.out
   clear HA
   simp only [tabardref3_Kind.j0] at H
   by_cases c4 : x10_1 = true
   ·
    subst c4
    have H1 : (some 3) = some r := by rw [if_pos rfl] at H; exact H
    clear H
    have H := H1
    clear H1
    obtain rfl := Option.some.inj H
    go_wp2
    go_ret
    exact ⟨by first | rfl | (simp; done) | (simp [*]; done), by repeat (first | exact Drawn0.refl _ | apply Drawn0.step)⟩
   ·
    replace c4 := Bool.eq_false_iff.mpr c4
    subst c4
    have H1 : (if (Int.tmod (a0 / 4503599627370496) 2048) = 2047 then (some 4) else (if (Int.tmod (a0 / 4503599627370496) 2048) = 0 then (tabardref3_Kind.j1 kj1 (Int.tmod (a0 / 4503599627370496) 2048) ((Int.tmod a0 4503599627370496) == 0)) else (tabardref3_Kind.j1 kj1 (Int.tmod (a0 / 4503599627370496) 2048) false))) = some r := by rw [if_neg (show ¬ (false = true) by decide)] at H; exact H
    clear H
    have H := H1
    clear H1
    by_cases c5 : (Int.tmod (a0 / 4503599627370496) 2048) = 2047
    ·
     rw [if_pos c5] at H
     have c5b0 : ((Int.tmod (a0 / 4503599627370496) 2048) == 2047) = true := beq_iff_eq.mpr c5
     have c5b1 : ((Int.tmod (a0 / 4503599627370496) 2048) != 2047) = false := bne_eq_false_iff_eq.mpr c5
     clear c5
     obtain rfl := Option.some.inj H
     go_wp2
     go_ret
     exact ⟨by first | rfl | (simp; done) | (simp [*]; done), by repeat (first | exact Drawn0.refl _ | apply Drawn0.step)⟩
    ·
     rw [if_neg c5] at H
     have c5b0 : ((Int.tmod (a0 / 4503599627370496) 2048) == 2047) = false := beq_eq_false_iff_ne.mpr c5
     have c5b1 : ((Int.tmod (a0 / 4503599627370496) 2048) != 2047) = true := bne_iff_ne.mpr c5
     have HC6 := zA H
     clear H
     go_upto_region 7 with (fail)
     go_cut [20] (fun v20 wc => ∃ (kq : Nat) (x20_5 : Bool), v20 = .bool x20_5 ∧ Aside0 (tabardref3_Kind.j1 kq (Int.tmod (a0 / 4503599627370496) 2048) x20_5 = some r) ∧ Aside0 (kq ≤ kj1) ∧ Drawn0 w wc)
     case first =>
      have H := HC6.out
      clear HC6
      by_cases c7 : (Int.tmod (a0 / 4503599627370496) 2048) = 0
      ·
       rw [if_pos c7] at H
       have c7b0 : ((Int.tmod (a0 / 4503599627370496) 2048) == 0) = true := beq_iff_eq.mpr c7
       have c7b1 : ((Int.tmod (a0 / 4503599627370496) 2048) != 0) = false := bne_eq_false_iff_eq.mpr c7
       clear c7
       (first | rw [c7b0] | (simp only [i64_w, i32_w]; rw [c7b0]) | skip)
       have H' := zA H
       clear H
       go_wp2
       go_meet
       case rel => exact ⟨_, (((Int.tmod a0 4503599627370496) == 0)), (by first | rfl | (simp; done) | (simp [*]; done)), H', ⟨by have := HJ1.out; first | omega | exact Nat.le_refl _⟩, by repeat (first | exact Drawn0.refl _ | apply Drawn0.step)⟩
      ·
       rw [if_neg c7] at H
       have c7b0 : ((Int.tmod (a0 / 4503599627370496) 2048) == 0) = false := beq_eq_false_iff_ne.mpr c7
       have c7b1 : ((Int.tmod (a0 / 4503599627370496) 2048) != 0) = true := bne_iff_ne.mpr c7
       (first | rw [c7b0] | (simp only [i64_w, i32_w]; rw [c7b0]) | skip)
       have H' := zA H
       clear H
       go_wp2
       go_meet
       case rel => exact ⟨_, (false), (by first | rfl | (simp; done) | (simp [*]; done)), H', ⟨by have := HJ1.out; first | omega | exact Nat.le_refl _⟩, by repeat (first | exact Drawn0.refl _ | apply Drawn0.step)⟩
     case rest =>
      clear HC6
      try clear c1
      try clear c2
      try clear p2
      try clear c3
      try clear c3b0
      try clear c3b1
      try clear c4
      try clear c5
      try clear c5b0
      try clear c5b1
      try clear c7
      try clear c7b0
      try clear c7b1
      try clear p2
      obtain ⟨kq, x20_5, rfl, HA, HJ5, ⟨mc5, rfl⟩⟩ := hcut
      cases kq with
      | zero => exact absurd HA.out (by simp [tabardref3_Kind.j1])
      | succ kj5 =>
       have H := HA.out
       clear HA
       simp only [tabardref3_Kind.j1] at H
       by_cases c8 : x20_5 = true
       ·
        subst c8
        have H1 : (some 0) = some r := by rw [if_pos rfl] at H; exact H
        clear H
        have H := H1
        clear H1
        obtain rfl := Option.some.inj H
        go_wp2
        go_ret
        exact ⟨by first | rfl | (simp; done) | (simp [*]; done), by repeat (first | exact Drawn0.refl _ | apply Drawn0.step)⟩
       ·
        replace c8 := Bool.eq_false_iff.mpr c8
        subst c8
        have H1 : (if (Int.tmod (a0 / 4503599627370496) 2048) = 0 then (some 1) else (some 2)) = some r := by rw [if_neg (show ¬ (false = true) by decide)] at H; exact H
        clear H
        have H := H1
        clear H1
        by_cases c9 : (Int.tmod (a0 / 4503599627370496) 2048) = 0
        ·
         rw [if_pos c9] at H
         have c9b0 : ((Int.tmod (a0 / 4503599627370496) 2048) == 0) = true := beq_iff_eq.mpr c9
         have c9b1 : ((Int.tmod (a0 / 4503599627370496) 2048) != 0) = false := bne_eq_false_iff_eq.mpr c9
         clear c9
         obtain rfl := Option.some.inj H
         go_wp2
         go_ret
         exact ⟨by first | rfl | (simp; done) | (simp [*]; done), by repeat (first | exact Drawn0.refl _ | apply Drawn0.step)⟩
        ·
         rw [if_neg c9] at H
         have c9b0 : ((Int.tmod (a0 / 4503599627370496) 2048) == 0) = false := beq_eq_false_iff_ne.mpr c9
         have c9b1 : ((Int.tmod (a0 / 4503599627370496) 2048) != 0) = true := bne_iff_ne.mpr c9
         obtain rfl := Option.some.inj H
         go_wp2
         go_ret
         exact ⟨by first | rfl | (simp; done) | (simp [*]; done), by repeat (first | exact Drawn0.refl _ | apply Drawn0.step)⟩

/-! ### tabardref3_Is: function 79 -/
def tabardref3_Is.f (a0 : Int) : Option (Bool) := some (decide (a0 ≥ 9223372036854775808))
set_option maxHeartbeats 8000000 in
set_option maxRecDepth 100000 in
theorem tabardref3_Is.calls (a0 : Int) (r : Bool) (w : World) (h : tabardref3_Is.f a0 = some r) :
  Calls Try.prog 79 #[.int .u64 a0] w fun e w' => e = .returned (.bool r) ∧ Drawn0 w w' := by
 have H : (some (decide (a0 ≥ 9223372036854775808))) = some r := h
 clear h
 obtain rfl := Option.some.inj H
 go_enter Try.func79, Try.ntmps79
 go_wp2
 go_ret
 exact ⟨by first | rfl | (simp; done) | (simp [*]; done), by repeat (first | exact Drawn0.refl _ | apply Drawn0.step)⟩

/-! ### tabardref3_Split: function 28 -/
def tabardref3_Split.j0 : Nat → Int → Int → Bool → Option (Bool × Int × Int)
 | 0, _, _, _ => none
 | k + 1, x0, x6, x7 => if x7 = true then ((tabardref3_Is.f x0).bind fun t266 => (some (t266, Int.tmod x0 4503599627370496, (-1074)))) else (if x6 = 2 then ((tabardref3_Is.f x0).bind fun t267 => (some (t267, IntKind.u64.wrap (4503599627370496 + (Int.tmod x0 4503599627370496)), wrap64 ((wrap64 (Int.tmod (x0 / 4503599627370496) 2048)) - 1075)))) else ((tabardref3_Is.f x0).bind fun t268 => (some (t268, 0, 0))))
def tabardref3_Split.f (k : Nat) (a0 : Int) : Option (Bool × Int × Int) := (tabardref3_Kind.f k a0).bind fun t265 => (if t265 = 0 then (tabardref3_Split.j0 k a0 t265 (t265 == 0)) else (tabardref3_Split.j0 k a0 t265 (t265 == 1)))
theorem tabardref3_Split.mono_l : ∀ k, (∀ y0 y1 y2, LeO (tabardref3_Split.j0 k y0 y1 y2) (tabardref3_Split.j0 (k + 1) y0 y1 y2))
 | 0 => fun _ _ _ r h => by simp [tabardref3_Split.j0] at h
 | k + 1 => by
  have ih0 := tabardref3_Split.mono_l k
  ·
   intro y0 y1 y2
   unfold tabardref3_Split.j0
   repeat' first
   | (with_reducible exact ih0 _ _ _)
   | (with_reducible exact tabardref3_Kind.mono _ _)
   | (with_reducible exact LeO.refl _)
   | (with_reducible exact LeO.none _)
   | (with_reducible refine LeO.ite ?_ ?_)
   | (with_reducible refine LeO.bind ?_ (fun _ => ?_))
   | exact ih0 _ _ _
   | exact tabardref3_Kind.mono _ _
   | exact LeO.none _
   | refine LeO.ite ?_ ?_
   | refine LeO.bind ?_ (fun _ => ?_)
theorem tabardref3_Split.mono : ∀ a0 k, LeO (tabardref3_Split.f k a0) (tabardref3_Split.f (k + 1) a0) := by
 intro a0 k
 have ih0 := tabardref3_Split.mono_l k
 unfold tabardref3_Split.f
 repeat' first
   | (with_reducible exact ih0 _ _ _)
   | (with_reducible exact tabardref3_Kind.mono _ _)
   | (with_reducible exact LeO.refl _)
   | (with_reducible exact LeO.none _)
   | (with_reducible refine LeO.ite ?_ ?_)
   | (with_reducible refine LeO.bind ?_ (fun _ => ?_))
   | exact ih0 _ _ _
   | exact tabardref3_Kind.mono _ _
   | exact LeO.none _
   | refine LeO.ite ?_ ?_
   | refine LeO.bind ?_ (fun _ => ?_)
set_option maxHeartbeats 8000000 in
set_option maxRecDepth 100000 in
theorem tabardref3_Split.calls (k : Nat) (a0 : Int) (r1 : Bool) (r2 : Int) (r3 : Int) (w : World) (h : tabardref3_Split.f k a0 = some (r1, r2, r3)) :
  Calls Try.prog 28 #[.int .u64 a0] w fun e w' => e = .returned (.tuple #[.bool r1, .int .u64 r2, .int .i64 r3]) ∧ Drawn0 w w' := by
 have H : ((tabardref3_Kind.f k a0).bind fun t265 => (if t265 = 0 then (tabardref3_Split.j0 k a0 t265 (t265 == 0)) else (tabardref3_Split.j0 k a0 t265 (t265 == 1)))) = some (r1, r2, r3) := h
 clear h
 replace H := Option.bind_eq_some_iff.mp H
 obtain ⟨t265, A20, H⟩ := H
 replace H : (if t265 = 0 then (tabardref3_Split.j0 k a0 t265 (t265 == 0)) else (tabardref3_Split.j0 k a0 t265 (t265 == 1))) = some (r1, r2, r3) := H
 have A2 := zA A20
 clear A20
 have HC3 := zA H
 clear H
 go_enter Try.func28, Try.ntmps28
 go_upto_if 7 with (first | ((with_reducible refine zoq (f := 29) rfl ?_); refine goesL_ (some 6) rfl rfl Try.func29 (by kernel_rfl) rfl #[.int .u64 a0] rfl (by (try simp only [List.map_toArray, List.map_cons, List.map_nil]); first | done | rfl | (simp only [List.length_drop, List.length_take]; rfl)) ?_; (with_reducible refine (tabardref3_Kind.calls k a0 t265 _ A2.out).mono ?_); rintro e w' ⟨rfl, ⟨nd, rfl⟩⟩; refine ⟨_, rfl, ?_⟩))
 (try simp only [Act.put, List.setIfInBounds_toArray, List.set_cons_zero, List.set_cons_succ])
 go_cut [7] (fun v7 wc => ∃ (kq : Nat) (x7_2 : Bool), v7 = .bool x7_2 ∧ Aside0 (tabardref3_Split.j0 kq a0 t265 x7_2 = some (r1, r2, r3)) ∧ Aside0 (kq ≤ k) ∧ Drawn0 w wc)
 case first =>
  have H := HC3.out
  clear HC3
  by_cases c4 : t265 = 0
  ·
   rw [if_pos c4] at H
   have c4b0 : (t265 == 0) = true := beq_iff_eq.mpr c4
   have c4b1 : (t265 != 0) = false := bne_eq_false_iff_eq.mpr c4
   clear c4
   (first | rw [c4b0] | (simp only [i64_w, i32_w]; rw [c4b0]) | skip)
   have H' := zA H
   clear H
   go_wp2
   go_meet
   case rel => exact ⟨_, ((t265 == 0)), (by first | rfl | (simp; done) | (simp [*]; done)), H', ⟨by first | omega | exact Nat.le_refl _⟩, by repeat (first | exact Drawn0.refl _ | apply Drawn0.step)⟩
  ·
   rw [if_neg c4] at H
   have c4b0 : (t265 == 0) = false := beq_eq_false_iff_ne.mpr c4
   have c4b1 : (t265 != 0) = true := bne_iff_ne.mpr c4
   (first | rw [c4b0] | (simp only [i64_w, i32_w]; rw [c4b0]) | skip)
   have H' := zA H
   clear H
   go_wp2
   go_meet
   case rel => exact ⟨_, ((t265 == 1)), (by first | rfl | (simp; done) | (simp [*]; done)), H', ⟨by first | omega | exact Nat.le_refl _⟩, by repeat (first | exact Drawn0.refl _ | apply Drawn0.step)⟩
 case rest =>
  clear HC3
  try clear c2
  try clear p2
  try clear c4
  try clear c4b0
  try clear c4b1
  obtain ⟨kq, x7_2, rfl, HA, HJ2, ⟨mc2, rfl⟩⟩ := hcut
  cases kq with
  | zero => exact absurd HA.out (by simp [tabardref3_Split.j0])
  | succ kj2 =>
   have H := HA.out
   clear HA
   simp only [tabardref3_Split.j0] at H
   by_cases c5 : x7_2 = true
   ·
    subst c5
    have H1 : ((tabardref3_Is.f a0).bind fun t266 => (some (t266, Int.tmod a0 4503599627370496, (-1074)))) = some (r1, r2, r3) := by rw [if_pos rfl] at H; exact H
    clear H
    have H := H1
    clear H1
    replace H := Option.bind_eq_some_iff.mp H
    obtain ⟨t266, A60, H⟩ := H
    replace H : (some (t266, Int.tmod a0 4503599627370496, (-1074))) = some (r1, r2, r3) := H
    have A6 := zA A60
    clear A60
    simp only [Option.some.injEq, Prod.mk.injEq] at H
    obtain ⟨rfl, rfl, rfl⟩ := H
    go_wp2_with (first | ((with_reducible refine zoq (f := 79) rfl ?_); refine goesL_ (some 11) rfl rfl Try.func79 (by kernel_rfl) rfl #[.int .u64 a0] rfl (by (try simp only [List.map_toArray, List.map_cons, List.map_nil]); first | done | rfl | (simp only [List.length_drop, List.length_take]; rfl)) ?_; (with_reducible refine (tabardref3_Is.calls a0 t266 _ A6.out).mono ?_); rintro e w' ⟨rfl, ⟨nd, rfl⟩⟩; refine ⟨_, rfl, ?_⟩))
    go_ret3
    exact ⟨by first | rfl | (simp; done) | (simp [*]; done), by repeat (first | exact Drawn0.refl _ | apply Drawn0.step)⟩
   ·
    replace c5 := Bool.eq_false_iff.mpr c5
    subst c5
    have H1 : (if t265 = 2 then ((tabardref3_Is.f a0).bind fun t267 => (some (t267, IntKind.u64.wrap (4503599627370496 + (Int.tmod a0 4503599627370496)), wrap64 ((wrap64 (Int.tmod (a0 / 4503599627370496) 2048)) - 1075)))) else ((tabardref3_Is.f a0).bind fun t268 => (some (t268, 0, 0)))) = some (r1, r2, r3) := by rw [if_neg (show ¬ (false = true) by decide)] at H; exact H
    clear H
    have H := H1
    clear H1
    by_cases c7 : t265 = 2
    ·
     rw [if_pos c7] at H
     have c7b0 : (t265 == 2) = true := beq_iff_eq.mpr c7
     have c7b1 : (t265 != 2) = false := bne_eq_false_iff_eq.mpr c7
     clear c7
     replace H := Option.bind_eq_some_iff.mp H
     obtain ⟨t267, A80, H⟩ := H
     replace H : (some (t267, IntKind.u64.wrap (4503599627370496 + (Int.tmod a0 4503599627370496)), wrap64 ((wrap64 (Int.tmod (a0 / 4503599627370496) 2048)) - 1075))) = some (r1, r2, r3) := H
     have A8 := zA A80
     clear A80
     simp only [Option.some.injEq, Prod.mk.injEq] at H
     obtain ⟨rfl, rfl, rfl⟩ := H
     go_wp2_with (first | ((with_reducible refine zoq (f := 79) rfl ?_); refine goesL_ (some 17) rfl rfl Try.func79 (by kernel_rfl) rfl #[.int .u64 a0] rfl (by (try simp only [List.map_toArray, List.map_cons, List.map_nil]); first | done | rfl | (simp only [List.length_drop, List.length_take]; rfl)) ?_; (with_reducible refine (tabardref3_Is.calls a0 t267 _ A8.out).mono ?_); rintro e w' ⟨rfl, ⟨nd, rfl⟩⟩; refine ⟨_, rfl, ?_⟩))
     go_ret3
     exact ⟨by first | rfl | (simp; done) | (simp [*]; done), by repeat (first | exact Drawn0.refl _ | apply Drawn0.step)⟩
    ·
     rw [if_neg c7] at H
     have c7b0 : (t265 == 2) = false := beq_eq_false_iff_ne.mpr c7
     have c7b1 : (t265 != 2) = true := bne_iff_ne.mpr c7
     replace H := Option.bind_eq_some_iff.mp H
     obtain ⟨t268, A90, H⟩ := H
     replace H : (some (t268, 0, 0)) = some (r1, r2, r3) := H
     have A9 := zA A90
     clear A90
     simp only [Option.some.injEq, Prod.mk.injEq] at H
     obtain ⟨rfl, rfl, rfl⟩ := H
     go_wp2_with (first | ((with_reducible refine zoq (f := 79) rfl ?_); refine goesL_ (some 27) rfl rfl Try.func79 (by kernel_rfl) rfl #[.int .u64 a0] rfl (by (try simp only [List.map_toArray, List.map_cons, List.map_nil]); first | done | rfl | (simp only [List.length_drop, List.length_take]; rfl)) ?_; (with_reducible refine (tabardref3_Is.calls a0 t268 _ A9.out).mono ?_); rintro e w' ⟨rfl, ⟨nd, rfl⟩⟩; refine ⟨_, rfl, ?_⟩))
     go_ret3
     exact ⟨by first | rfl | (simp; done) | (simp [*]; done), by repeat (first | exact Drawn0.refl _ | apply Drawn0.step)⟩

/-! ### float_Right: function 30 -/
def float_Right.f (k : Nat) (a0 : Int) : Option (Int) := (float_Kind.f k a0).bind fun t269 => (if t269 = 4 then (some 9221120237041090560) else (some a0))
theorem float_Right.mono : ∀ a0 k, LeO (float_Right.f k a0) (float_Right.f (k + 1) a0) := by
 intro a0 k
 unfold float_Right.f
 repeat' first
   | (with_reducible exact float_Kind.mono _ _)
   | (with_reducible exact LeO.refl _)
   | (with_reducible exact LeO.none _)
   | (with_reducible refine LeO.ite ?_ ?_)
   | (with_reducible refine LeO.bind ?_ (fun _ => ?_))
   | exact float_Kind.mono _ _
   | exact LeO.none _
   | refine LeO.ite ?_ ?_
   | refine LeO.bind ?_ (fun _ => ?_)
set_option maxHeartbeats 8000000 in
set_option maxRecDepth 100000 in
theorem float_Right.calls (k : Nat) (a0 : Int) (r : Int) (w : World) (h : float_Right.f k a0 = some r) :
  Calls Try.prog 30 #[.int .u64 a0] w fun e w' => e = .returned (.int .u64 r) ∧ Drawn0 w w' := by
 have H : ((float_Kind.f k a0).bind fun t269 => (if t269 = 4 then (some 9221120237041090560) else (some a0))) = some r := h
 clear h
 replace H := Option.bind_eq_some_iff.mp H
 obtain ⟨t269, A20, H⟩ := H
 replace H : (if t269 = 4 then (some 9221120237041090560) else (some a0)) = some r := H
 have A2 := zA A20
 clear A20
 by_cases c3 : t269 = 4
 ·
  rw [if_pos c3] at H
  have c3b0 : (t269 == 4) = true := beq_iff_eq.mpr c3
  have c3b1 : (t269 != 4) = false := bne_eq_false_iff_eq.mpr c3
  clear c3
  obtain rfl := Option.some.inj H
  go_enter Try.func30, Try.ntmps30
  go_wp2_with (first | ((with_reducible refine zoq (f := 23) rfl ?_); refine goesL_ (some 4) rfl rfl Try.func23 (by kernel_rfl) rfl #[.int .u64 a0] rfl (by (try simp only [List.map_toArray, List.map_cons, List.map_nil]); first | done | rfl | (simp only [List.length_drop, List.length_take]; rfl)) ?_; (with_reducible refine (float_Kind.calls k a0 t269 _ A2.out).mono ?_); rintro e w' ⟨rfl, ⟨nd, rfl⟩⟩; refine ⟨_, rfl, ?_⟩))
  go_ret
  exact ⟨by first | rfl | (simp; done) | (simp [*]; done), by repeat (first | exact Drawn0.refl _ | apply Drawn0.step)⟩
 ·
  rw [if_neg c3] at H
  have c3b0 : (t269 == 4) = false := beq_eq_false_iff_ne.mpr c3
  have c3b1 : (t269 != 4) = true := bne_iff_ne.mpr c3
  obtain rfl := Option.some.inj H
  go_enter Try.func30, Try.ntmps30
  go_wp2_with (first | ((with_reducible refine zoq (f := 23) rfl ?_); refine goesL_ (some 4) rfl rfl Try.func23 (by kernel_rfl) rfl #[.int .u64 a0] rfl (by (try simp only [List.map_toArray, List.map_cons, List.map_nil]); first | done | rfl | (simp only [List.length_drop, List.length_take]; rfl)) ?_; (with_reducible refine (float_Kind.calls k a0 t269 _ A2.out).mono ?_); rintro e w' ⟨rfl, ⟨nd, rfl⟩⟩; refine ⟨_, rfl, ?_⟩))
  go_ret
  exact ⟨by first | rfl | (simp; done) | (simp [*]; done), by repeat (first | exact Drawn0.refl _ | apply Drawn0.step)⟩

/-! ### tabardref3_Right: function 31 -/
def tabardref3_Right.f (k : Nat) (a0 : Int) : Option (Int) := (tabardref3_Kind.f k a0).bind fun t270 => (if t270 = 4 then (some 9221120237041090560) else (some a0))
theorem tabardref3_Right.mono : ∀ a0 k, LeO (tabardref3_Right.f k a0) (tabardref3_Right.f (k + 1) a0) := by
 intro a0 k
 unfold tabardref3_Right.f
 repeat' first
   | (with_reducible exact tabardref3_Kind.mono _ _)
   | (with_reducible exact LeO.refl _)
   | (with_reducible exact LeO.none _)
   | (with_reducible refine LeO.ite ?_ ?_)
   | (with_reducible refine LeO.bind ?_ (fun _ => ?_))
   | exact tabardref3_Kind.mono _ _
   | exact LeO.none _
   | refine LeO.ite ?_ ?_
   | refine LeO.bind ?_ (fun _ => ?_)
set_option maxHeartbeats 8000000 in
set_option maxRecDepth 100000 in
theorem tabardref3_Right.calls (k : Nat) (a0 : Int) (r : Int) (w : World) (h : tabardref3_Right.f k a0 = some r) :
  Calls Try.prog 31 #[.int .u64 a0] w fun e w' => e = .returned (.int .u64 r) ∧ Drawn0 w w' := by
 have H : ((tabardref3_Kind.f k a0).bind fun t270 => (if t270 = 4 then (some 9221120237041090560) else (some a0))) = some r := h
 clear h
 replace H := Option.bind_eq_some_iff.mp H
 obtain ⟨t270, A20, H⟩ := H
 replace H : (if t270 = 4 then (some 9221120237041090560) else (some a0)) = some r := H
 have A2 := zA A20
 clear A20
 by_cases c3 : t270 = 4
 ·
  rw [if_pos c3] at H
  have c3b0 : (t270 == 4) = true := beq_iff_eq.mpr c3
  have c3b1 : (t270 != 4) = false := bne_eq_false_iff_eq.mpr c3
  clear c3
  obtain rfl := Option.some.inj H
  go_enter Try.func31, Try.ntmps31
  go_wp2_with (first | ((with_reducible refine zoq (f := 29) rfl ?_); refine goesL_ (some 4) rfl rfl Try.func29 (by kernel_rfl) rfl #[.int .u64 a0] rfl (by (try simp only [List.map_toArray, List.map_cons, List.map_nil]); first | done | rfl | (simp only [List.length_drop, List.length_take]; rfl)) ?_; (with_reducible refine (tabardref3_Kind.calls k a0 t270 _ A2.out).mono ?_); rintro e w' ⟨rfl, ⟨nd, rfl⟩⟩; refine ⟨_, rfl, ?_⟩))
  go_ret
  exact ⟨by first | rfl | (simp; done) | (simp [*]; done), by repeat (first | exact Drawn0.refl _ | apply Drawn0.step)⟩
 ·
  rw [if_neg c3] at H
  have c3b0 : (t270 == 4) = false := beq_eq_false_iff_ne.mpr c3
  have c3b1 : (t270 != 4) = true := bne_iff_ne.mpr c3
  obtain rfl := Option.some.inj H
  go_enter Try.func31, Try.ntmps31
  go_wp2_with (first | ((with_reducible refine zoq (f := 29) rfl ?_); refine goesL_ (some 4) rfl rfl Try.func29 (by kernel_rfl) rfl #[.int .u64 a0] rfl (by (try simp only [List.map_toArray, List.map_cons, List.map_nil]); first | done | rfl | (simp only [List.length_drop, List.length_take]; rfl)) ?_; (with_reducible refine (tabardref3_Kind.calls k a0 t270 _ A2.out).mono ?_); rintro e w' ⟨rfl, ⟨nd, rfl⟩⟩; refine ⟨_, rfl, ?_⟩))
  go_ret
  exact ⟨by first | rfl | (simp; done) | (simp [*]; done), by repeat (first | exact Drawn0.refl _ | apply Drawn0.step)⟩

end Go.Proofs.Ytbejjlecpcphoaa.P
