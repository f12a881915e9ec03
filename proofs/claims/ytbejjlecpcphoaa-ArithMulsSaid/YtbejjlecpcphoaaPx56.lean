-- Written by a program of this session's (a turned print), not by hand.
import Derived.Test.YtbejjlecpcphoaaPx0
import Derived.Test.YtbejjlecpcphoaaPx14
import Derived.Test.YtbejjlecpcphoaaPx20
import Derived.Test.YtbejjlecpcphoaaPx35
import Derived.Test.YtbejjlecpcphoaaPx51
import Derived.Test.YtbejjlecpcphoaaPx53
namespace Go.Proofs.Ytbejjlecpcphoaa.P
open Go.RowKit Go.Proofs.YtbejjlecpcphoaaW.PrintWords Go.Proofs.YtbejjlecpcphoaaW.PrintLast Go.Proofs.YtbejjlecpcphoaaW.PrintMore
attribute [local go_sem] max2_int min2_int max_two min_two max_three min_three max_four min_four   -- for this text's walks alone
set_option linter.unusedVariables false
set_option linter.unusedSimpArgs false

/-! ### tabardref4_Mul: function 69 -/
def tabardref4_Mul.j0 : Nat → Int → Int → Int → Int → Bool → Bool → Option (Int)
 | 0, _, _, _, _, _, _ => none
 | k + 1, x0, x1, x5, x6, x7, x23 => if x23 = true then (some 9221120237041090560) else (if x5 = 3 then ((tabardref4_zero.f x7).bind fun t921 => (some (IntKind.u64.wrap (t921 + 9218868437227405312)))) else (if x6 = 3 then ((tabardref4_zero.f x7).bind fun t922 => (some (IntKind.u64.wrap (t922 + 9218868437227405312)))) else ((tabardref3_Split.f k x0).bind fun bt923 => ((tabardref3_Split.f k x1).bind fun bt926 => ((tabardref3_Nat.f k bt923.2.1).bind fun t929 => ((tabardref3_Nat.f k bt926.2.1).bind fun t932 => ((tabardref1_Times.f k t929 t932).bind fun t935 => ((tabardref3_Round.f k x7 t935 (wrap64 (bt923.2.2 + bt926.2.2)) false).bind fun t938 => (some t938)))))))))
def tabardref4_Mul.f (k : Nat) (a0 : Int) (a1 : Int) : Option (Int) := (tabardref3_Kind.f k a0).bind fun t917 => ((tabardref3_Kind.f k a1).bind fun t918 => ((tabardref3_Is.f a0).bind fun t919 => ((tabardref3_Is.f a1).bind fun t920 => (if t917 = 4 then (tabardref4_Mul.j0 k a0 a1 t917 t918 (t919 != t920) true) else (if t918 = 4 then (tabardref4_Mul.j0 k a0 a1 t917 t918 (t919 != t920) true) else (if t917 = 3 then (if t918 = 0 then (tabardref4_Mul.j0 k a0 a1 t917 t918 (t919 != t920) true) else (if t917 = 0 then (tabardref4_Mul.j0 k a0 a1 t917 t918 (t919 != t920) (t918 == 3)) else (tabardref4_Mul.j0 k a0 a1 t917 t918 (t919 != t920) false))) else (if t917 = 0 then (tabardref4_Mul.j0 k a0 a1 t917 t918 (t919 != t920) (t918 == 3)) else (tabardref4_Mul.j0 k a0 a1 t917 t918 (t919 != t920) false))))))))
theorem tabardref4_Mul.mono_l : ∀ k, (∀ y0 y1 y2 y3 y4 y5, LeO (tabardref4_Mul.j0 k y0 y1 y2 y3 y4 y5) (tabardref4_Mul.j0 (k + 1) y0 y1 y2 y3 y4 y5))
 | 0 => fun _ _ _ _ _ _ r h => by simp [tabardref4_Mul.j0] at h
 | k + 1 => by
  have ih0 := tabardref4_Mul.mono_l k
  ·
   intro y0 y1 y2 y3 y4 y5
   unfold tabardref4_Mul.j0
   repeat' first
   | (with_reducible exact ih0 _ _ _ _ _ _)
   | (with_reducible exact tabardref1_Times.mono _ _ _)
   | (with_reducible exact tabardref3_Kind.mono _ _)
   | (with_reducible exact tabardref3_Nat.mono _ _)
   | (with_reducible exact tabardref3_Round.mono _ _ _ _ _)
   | (with_reducible exact tabardref3_Split.mono _ _)
   | (with_reducible exact LeO.refl _)
   | (with_reducible exact LeO.none _)
   | (with_reducible refine LeO.ite ?_ ?_)
   | (with_reducible refine LeO.bind ?_ (fun _ => ?_))
   | exact ih0 _ _ _ _ _ _
   | exact tabardref1_Times.mono _ _ _
   | exact tabardref3_Kind.mono _ _
   | exact tabardref3_Nat.mono _ _
   | exact tabardref3_Round.mono _ _ _ _ _
   | exact tabardref3_Split.mono _ _
   | exact LeO.none _
   | refine LeO.ite ?_ ?_
   | refine LeO.bind ?_ (fun _ => ?_)
theorem tabardref4_Mul.mono : ∀ a0 a1 k, LeO (tabardref4_Mul.f k a0 a1) (tabardref4_Mul.f (k + 1) a0 a1) := by
 intro a0 a1 k
 have ih0 := tabardref4_Mul.mono_l k
 unfold tabardref4_Mul.f
 repeat' first
   | (with_reducible exact ih0 _ _ _ _ _ _)
   | (with_reducible exact tabardref1_Times.mono _ _ _)
   | (with_reducible exact tabardref3_Kind.mono _ _)
   | (with_reducible exact tabardref3_Nat.mono _ _)
   | (with_reducible exact tabardref3_Round.mono _ _ _ _ _)
   | (with_reducible exact tabardref3_Split.mono _ _)
   | (with_reducible exact LeO.refl _)
   | (with_reducible exact LeO.none _)
   | (with_reducible refine LeO.ite ?_ ?_)
   | (with_reducible refine LeO.bind ?_ (fun _ => ?_))
   | exact ih0 _ _ _ _ _ _
   | exact tabardref1_Times.mono _ _ _
   | exact tabardref3_Kind.mono _ _
   | exact tabardref3_Nat.mono _ _
   | exact tabardref3_Round.mono _ _ _ _ _
   | exact tabardref3_Split.mono _ _
   | exact LeO.none _
   | refine LeO.ite ?_ ?_
   | refine LeO.bind ?_ (fun _ => ?_)
set_option maxHeartbeats 8000000 in
set_option maxRecDepth 100000 in
theorem tabardref4_Mul.calls (k : Nat) (a0 : Int) (a1 : Int) (r : Int) (w : World) (h : tabardref4_Mul.f k a0 a1 = some r) :
  Calls Try.prog 69 #[.int .u64 a0, .int .u64 a1] w fun e w' => e = .returned (.int .u64 r) ∧ Below w.heap.size w w' := by
 have HB := zA (Below.refl w.heap.size w)
 have H : ((tabardref3_Kind.f k a0).bind fun t917 => ((tabardref3_Kind.f k a1).bind fun t918 => ((tabardref3_Is.f a0).bind fun t919 => ((tabardref3_Is.f a1).bind fun t920 => (if t917 = 4 then (tabardref4_Mul.j0 k a0 a1 t917 t918 (t919 != t920) true) else (if t918 = 4 then (tabardref4_Mul.j0 k a0 a1 t917 t918 (t919 != t920) true) else (if t917 = 3 then (if t918 = 0 then (tabardref4_Mul.j0 k a0 a1 t917 t918 (t919 != t920) true) else (if t917 = 0 then (tabardref4_Mul.j0 k a0 a1 t917 t918 (t919 != t920) (t918 == 3)) else (tabardref4_Mul.j0 k a0 a1 t917 t918 (t919 != t920) false))) else (if t917 = 0 then (tabardref4_Mul.j0 k a0 a1 t917 t918 (t919 != t920) (t918 == 3)) else (tabardref4_Mul.j0 k a0 a1 t917 t918 (t919 != t920) false))))))))) = some r := h
 clear h
 replace H := Option.bind_eq_some_iff.mp H
 obtain ⟨t917, A30, H⟩ := H
 replace H : ((tabardref3_Kind.f k a1).bind fun t918 => ((tabardref3_Is.f a0).bind fun t919 => ((tabardref3_Is.f a1).bind fun t920 => (if t917 = 4 then (tabardref4_Mul.j0 k a0 a1 t917 t918 (t919 != t920) true) else (if t918 = 4 then (tabardref4_Mul.j0 k a0 a1 t917 t918 (t919 != t920) true) else (if t917 = 3 then (if t918 = 0 then (tabardref4_Mul.j0 k a0 a1 t917 t918 (t919 != t920) true) else (if t917 = 0 then (tabardref4_Mul.j0 k a0 a1 t917 t918 (t919 != t920) (t918 == 3)) else (tabardref4_Mul.j0 k a0 a1 t917 t918 (t919 != t920) false))) else (if t917 = 0 then (tabardref4_Mul.j0 k a0 a1 t917 t918 (t919 != t920) (t918 == 3)) else (tabardref4_Mul.j0 k a0 a1 t917 t918 (t919 != t920) false)))))))) = some r := H
 have A3 := zA A30
 clear A30
 replace H := Option.bind_eq_some_iff.mp H
 obtain ⟨t918, A40, H⟩ := H
 replace H : ((tabardref3_Is.f a0).bind fun t919 => ((tabardref3_Is.f a1).bind fun t920 => (if t917 = 4 then (tabardref4_Mul.j0 k a0 a1 t917 t918 (t919 != t920) true) else (if t918 = 4 then (tabardref4_Mul.j0 k a0 a1 t917 t918 (t919 != t920) true) else (if t917 = 3 then (if t918 = 0 then (tabardref4_Mul.j0 k a0 a1 t917 t918 (t919 != t920) true) else (if t917 = 0 then (tabardref4_Mul.j0 k a0 a1 t917 t918 (t919 != t920) (t918 == 3)) else (tabardref4_Mul.j0 k a0 a1 t917 t918 (t919 != t920) false))) else (if t917 = 0 then (tabardref4_Mul.j0 k a0 a1 t917 t918 (t919 != t920) (t918 == 3)) else (tabardref4_Mul.j0 k a0 a1 t917 t918 (t919 != t920) false))))))) = some r := H
 have A4 := zA A40
 clear A40
 replace H := Option.bind_eq_some_iff.mp H
 obtain ⟨t919, A50, H⟩ := H
 replace H : ((tabardref3_Is.f a1).bind fun t920 => (if t917 = 4 then (tabardref4_Mul.j0 k a0 a1 t917 t918 (t919 != t920) true) else (if t918 = 4 then (tabardref4_Mul.j0 k a0 a1 t917 t918 (t919 != t920) true) else (if t917 = 3 then (if t918 = 0 then (tabardref4_Mul.j0 k a0 a1 t917 t918 (t919 != t920) true) else (if t917 = 0 then (tabardref4_Mul.j0 k a0 a1 t917 t918 (t919 != t920) (t918 == 3)) else (tabardref4_Mul.j0 k a0 a1 t917 t918 (t919 != t920) false))) else (if t917 = 0 then (tabardref4_Mul.j0 k a0 a1 t917 t918 (t919 != t920) (t918 == 3)) else (tabardref4_Mul.j0 k a0 a1 t917 t918 (t919 != t920) false)))))) = some r := H
 have A5 := zA A50
 clear A50
 replace H := Option.bind_eq_some_iff.mp H
 obtain ⟨t920, A60, H⟩ := H
 replace H : (if t917 = 4 then (tabardref4_Mul.j0 k a0 a1 t917 t918 (t919 != t920) true) else (if t918 = 4 then (tabardref4_Mul.j0 k a0 a1 t917 t918 (t919 != t920) true) else (if t917 = 3 then (if t918 = 0 then (tabardref4_Mul.j0 k a0 a1 t917 t918 (t919 != t920) true) else (if t917 = 0 then (tabardref4_Mul.j0 k a0 a1 t917 t918 (t919 != t920) (t918 == 3)) else (tabardref4_Mul.j0 k a0 a1 t917 t918 (t919 != t920) false))) else (if t917 = 0 then (tabardref4_Mul.j0 k a0 a1 t917 t918 (t919 != t920) (t918 == 3)) else (tabardref4_Mul.j0 k a0 a1 t917 t918 (t919 != t920) false))))) = some r := H
 have A6 := zA A60
 clear A60
 have HC7 := zA H
 clear H
 go_enter Try.func69, Try.ntmps69
 go_upto_region 4 with (first | ((with_reducible refine zoq (f := 29) rfl ?_); refine goesL_ (some 15) rfl rfl Try.func29 (by kernel_rfl) rfl #[.int .u64 a0] rfl (by (try simp only [List.map_toArray, List.map_cons, List.map_nil]); first | done | rfl | (simp only [List.length_drop, List.length_take]; rfl)) ?_; (with_reducible refine (tabardref3_Kind.calls k a0 t917 _ A3.out).mono ?_); rintro e w' ⟨rfl, ⟨nd, rfl⟩⟩; refine ⟨_, rfl, ?_⟩) | ((with_reducible refine zoq (f := 29) rfl ?_); refine goesL_ (some 17) rfl rfl Try.func29 (by kernel_rfl) rfl #[.int .u64 a1] rfl (by (try simp only [List.map_toArray, List.map_cons, List.map_nil]); first | done | rfl | (simp only [List.length_drop, List.length_take]; rfl)) ?_; (with_reducible refine (tabardref3_Kind.calls k a1 t918 _ A4.out).mono ?_); rintro e w' ⟨rfl, ⟨nd, rfl⟩⟩; refine ⟨_, rfl, ?_⟩) | ((with_reducible refine zoq (f := 79) rfl ?_); refine goesL_ (some 19) rfl rfl Try.func79 (by kernel_rfl) rfl #[.int .u64 a0] rfl (by (try simp only [List.map_toArray, List.map_cons, List.map_nil]); first | done | rfl | (simp only [List.length_drop, List.length_take]; rfl)) ?_; (with_reducible refine (tabardref3_Is.calls a0 t919 _ A5.out).mono ?_); rintro e w' ⟨rfl, ⟨nd, rfl⟩⟩; refine ⟨_, rfl, ?_⟩) | ((with_reducible refine zoq (f := 79) rfl ?_); refine goesL_ (some 21) rfl rfl Try.func79 (by kernel_rfl) rfl #[.int .u64 a1] rfl (by (try simp only [List.map_toArray, List.map_cons, List.map_nil]); first | done | rfl | (simp only [List.length_drop, List.length_take]; rfl)) ?_; (with_reducible refine (tabardref3_Is.calls a1 t920 _ A6.out).mono ?_); rintro e w' ⟨rfl, ⟨nd, rfl⟩⟩; refine ⟨_, rfl, ?_⟩))
 (try simp only [Act.put, List.setIfInBounds_toArray, List.set_cons_zero, List.set_cons_succ])
 go_cut [23] (fun v23 wc => ∃ (kq : Nat) (x23_6 : Bool), v23 = .bool x23_6 ∧ Aside0 (tabardref4_Mul.j0 kq a0 a1 t917 t918 (t919 != t920) x23_6 = some r) ∧ Aside0 (kq ≤ k) ∧ Aside0 (Below w.heap.size w wc))
 case first =>
  have H := HC7.out
  clear HC7
  by_cases c8 : t917 = 4
  ·
   rw [if_pos c8] at H
   have c8b0 : (t917 == 4) = true := beq_iff_eq.mpr c8
   have c8b1 : (t917 != 4) = false := bne_eq_false_iff_eq.mpr c8
   clear c8
   (first | rw [c8b0] | (simp only [i64_w, i32_w]; rw [c8b0]) | skip)
   have H' := zA H
   clear H
   go_wp2
   go_meet
   case rel => exact ⟨_, (true), (by first | rfl | (simp; done) | (simp [*]; done)), H', ⟨by first | omega | exact Nat.le_refl _⟩, ⟨by repeat (first | (with_reducible first | exact HB.out | apply zaq | apply zbq | apply zcq) | exact HB.out)⟩⟩
  ·
   rw [if_neg c8] at H
   have c8b0 : (t917 == 4) = false := beq_eq_false_iff_ne.mpr c8
   have c8b1 : (t917 != 4) = true := bne_iff_ne.mpr c8
   (first | rw [c8b0] | (simp only [i64_w, i32_w]; rw [c8b0]) | skip)
   by_cases c9 : t918 = 4
   ·
    rw [if_pos c9] at H
    have c9b0 : (t918 == 4) = true := beq_iff_eq.mpr c9
    have c9b1 : (t918 != 4) = false := bne_eq_false_iff_eq.mpr c9
    clear c9
    have H' := zA H
    clear H
    go_wp2
    go_meet
    case rel => exact ⟨_, (true), (by first | rfl | (simp; done) | (simp [*]; done)), H', ⟨by first | omega | exact Nat.le_refl _⟩, ⟨by repeat (first | (with_reducible first | exact HB.out | apply zaq | apply zbq | apply zcq) | exact HB.out)⟩⟩
   ·
    rw [if_neg c9] at H
    have c9b0 : (t918 == 4) = false := beq_eq_false_iff_ne.mpr c9
    have c9b1 : (t918 != 4) = true := bne_iff_ne.mpr c9
    by_cases c10 : t917 = 3
    ·
     rw [if_pos c10] at H
     have c10b0 : (t917 == 3) = true := beq_iff_eq.mpr c10
     have c10b1 : (t917 != 3) = false := bne_eq_false_iff_eq.mpr c10
     clear c10
     by_cases c11 : t918 = 0
     ·
      rw [if_pos c11] at H
      have c11b0 : (t918 == 0) = true := beq_iff_eq.mpr c11
      have c11b1 : (t918 != 0) = false := bne_eq_false_iff_eq.mpr c11
      clear c11
      have H' := zA H
      clear H
      go_wp2
      go_meet
      case rel => exact ⟨_, (true), (by first | rfl | (simp; done) | (simp [*]; done)), H', ⟨by first | omega | exact Nat.le_refl _⟩, ⟨by repeat (first | (with_reducible first | exact HB.out | apply zaq | apply zbq | apply zcq) | exact HB.out)⟩⟩
     ·
      rw [if_neg c11] at H
      have c11b0 : (t918 == 0) = false := beq_eq_false_iff_ne.mpr c11
      have c11b1 : (t918 != 0) = true := bne_iff_ne.mpr c11
      by_cases c12 : t917 = 0
      ·
       rw [if_pos c12] at H
       have c12b0 : (t917 == 0) = true := beq_iff_eq.mpr c12
       have c12b1 : (t917 != 0) = false := bne_eq_false_iff_eq.mpr c12
       clear c12
       have H' := zA H
       clear H
       go_wp2
       go_meet
       case rel => exact ⟨_, ((t918 == 3)), (by first | rfl | (simp; done) | (simp [*]; done)), H', ⟨by first | omega | exact Nat.le_refl _⟩, ⟨by repeat (first | (with_reducible first | exact HB.out | apply zaq | apply zbq | apply zcq) | exact HB.out)⟩⟩
      ·
       rw [if_neg c12] at H
       have c12b0 : (t917 == 0) = false := beq_eq_false_iff_ne.mpr c12
       have c12b1 : (t917 != 0) = true := bne_iff_ne.mpr c12
       have H' := zA H
       clear H
       go_wp2
       go_meet
       case rel => exact ⟨_, (false), (by first | rfl | (simp; done) | (simp [*]; done)), H', ⟨by first | omega | exact Nat.le_refl _⟩, ⟨by repeat (first | (with_reducible first | exact HB.out | apply zaq | apply zbq | apply zcq) | exact HB.out)⟩⟩
    ·
     rw [if_neg c10] at H
     have c10b0 : (t917 == 3) = false := beq_eq_false_iff_ne.mpr c10
     have c10b1 : (t917 != 3) = true := bne_iff_ne.mpr c10
     by_cases c13 : t917 = 0
     ·
      rw [if_pos c13] at H
      have c13b0 : (t917 == 0) = true := beq_iff_eq.mpr c13
      have c13b1 : (t917 != 0) = false := bne_eq_false_iff_eq.mpr c13
      clear c13
      have H' := zA H
      clear H
      go_wp2
      go_meet
      case rel => exact ⟨_, ((t918 == 3)), (by first | rfl | (simp; done) | (simp [*]; done)), H', ⟨by first | omega | exact Nat.le_refl _⟩, ⟨by repeat (first | (with_reducible first | exact HB.out | apply zaq | apply zbq | apply zcq) | exact HB.out)⟩⟩
     ·
      rw [if_neg c13] at H
      have c13b0 : (t917 == 0) = false := beq_eq_false_iff_ne.mpr c13
      have c13b1 : (t917 != 0) = true := bne_iff_ne.mpr c13
      have H' := zA H
      clear H
      go_wp2
      go_meet
      case rel => exact ⟨_, (false), (by first | rfl | (simp; done) | (simp [*]; done)), H', ⟨by first | omega | exact Nat.le_refl _⟩, ⟨by repeat (first | (with_reducible first | exact HB.out | apply zaq | apply zbq | apply zcq) | exact HB.out)⟩⟩
 case rest =>
  clear HC7
  try clear c1
  try clear c2
  try clear p2
  try clear c6
  try clear c7
  try clear c8
  try clear c8b0
  try clear c8b1
  try clear c9
  try clear c9b0
  try clear c9b1
  try clear c10
  try clear c10b0
  try clear c10b1
  try clear c11
  try clear c11b0
  try clear c11b1
  try clear c12
  try clear c12b0
  try clear c12b1
  try clear c13
  try clear c13b0
  try clear c13b1
  obtain ⟨kq, x23_6, rfl, HA, HJ6, HB⟩ := hcut
  cases kq with
  | zero => exact absurd HA.out (by simp [tabardref4_Mul.j0])
  | succ kj6 =>
   have H := HA.out
   clear HA
   simp only [tabardref4_Mul.j0] at H
   by_cases c14 : x23_6 = true
   ·
    subst c14
    have H1 : (some 9221120237041090560) = some r := by rw [if_pos rfl] at H; exact H
    clear H
    have H := H1
    clear H1
    obtain rfl := Option.some.inj H
    go_wp2
    go_ret
    exact ⟨by first | rfl | (simp [errW_none, errW_some] <;> rfl) | (simp [*, errW_none, errW_some] <;> rfl), by repeat (first | (with_reducible first | exact HB.out | apply zaq | apply zbq | apply zcq) | exact HB.out)⟩
   ·
    replace c14 := Bool.eq_false_iff.mpr c14
    subst c14
    have H1 : (if t917 = 3 then ((tabardref4_zero.f (t919 != t920)).bind fun t921 => (some (IntKind.u64.wrap (t921 + 9218868437227405312)))) else (if t918 = 3 then ((tabardref4_zero.f (t919 != t920)).bind fun t922 => (some (IntKind.u64.wrap (t922 + 9218868437227405312)))) else ((tabardref3_Split.f kj6 a0).bind fun bt923 => ((tabardref3_Split.f kj6 a1).bind fun bt926 => ((tabardref3_Nat.f kj6 bt923.2.1).bind fun t929 => ((tabardref3_Nat.f kj6 bt926.2.1).bind fun t932 => ((tabardref1_Times.f kj6 t929 t932).bind fun t935 => ((tabardref3_Round.f kj6 (t919 != t920) t935 (wrap64 (bt923.2.2 + bt926.2.2)) false).bind fun t938 => (some t938))))))))) = some r := by rw [if_neg (show ¬ (false = true) by decide)] at H; exact H
    clear H
    have H := H1
    clear H1
    by_cases c15 : t917 = 3
    ·
     rw [if_pos c15] at H
     have c15b0 : (t917 == 3) = true := beq_iff_eq.mpr c15
     have c15b1 : (t917 != 3) = false := bne_eq_false_iff_eq.mpr c15
     clear c15
     replace H := Option.bind_eq_some_iff.mp H
     obtain ⟨t921, A160, H⟩ := H
     replace H : (some (IntKind.u64.wrap (t921 + 9218868437227405312))) = some r := H
     have A16 := zA A160
     clear A160
     obtain rfl := Option.some.inj H
     go_wp2_with (first | ((with_reducible refine zoq (f := 94) rfl ?_); refine goesL_ (some 54) rfl rfl Try.func94 (by kernel_rfl) rfl #[.bool (t919 != t920)] rfl (by (try simp only [List.map_toArray, List.map_cons, List.map_nil]); first | done | rfl | (simp only [List.length_drop, List.length_take]; rfl)) ?_; (with_reducible refine (tabardref4_zero.calls (t919 != t920) t921 _ A16.out).mono ?_); rintro e w' ⟨rfl, ⟨nd, rfl⟩⟩; refine ⟨_, rfl, ?_⟩))
     go_ret
     exact ⟨by first | rfl | (simp [errW_none, errW_some] <;> rfl) | (simp [*, errW_none, errW_some] <;> rfl), by repeat (first | (with_reducible first | exact HB.out | apply zaq | apply zbq | apply zcq) | exact HB.out)⟩
    ·
     rw [if_neg c15] at H
     have c15b0 : (t917 == 3) = false := beq_eq_false_iff_ne.mpr c15
     have c15b1 : (t917 != 3) = true := bne_iff_ne.mpr c15
     by_cases c17 : t918 = 3
     ·
      rw [if_pos c17] at H
      have c17b0 : (t918 == 3) = true := beq_iff_eq.mpr c17
      have c17b1 : (t918 != 3) = false := bne_eq_false_iff_eq.mpr c17
      clear c17
      replace H := Option.bind_eq_some_iff.mp H
      obtain ⟨t922, A180, H⟩ := H
      replace H : (some (IntKind.u64.wrap (t922 + 9218868437227405312))) = some r := H
      have A18 := zA A180
      clear A180
      obtain rfl := Option.some.inj H
      go_wp2_with (first | ((with_reducible refine zoq (f := 94) rfl ?_); refine goesL_ (some 54) rfl rfl Try.func94 (by kernel_rfl) rfl #[.bool (t919 != t920)] rfl (by (try simp only [List.map_toArray, List.map_cons, List.map_nil]); first | done | rfl | (simp only [List.length_drop, List.length_take]; rfl)) ?_; (with_reducible refine (tabardref4_zero.calls (t919 != t920) t922 _ A18.out).mono ?_); rintro e w' ⟨rfl, ⟨nd, rfl⟩⟩; refine ⟨_, rfl, ?_⟩))
      go_ret
      exact ⟨by first | rfl | (simp [errW_none, errW_some] <;> rfl) | (simp [*, errW_none, errW_some] <;> rfl), by repeat (first | (with_reducible first | exact HB.out | apply zaq | apply zbq | apply zcq) | exact HB.out)⟩
     ·
      rw [if_neg c17] at H
      have c17b0 : (t918 == 3) = false := beq_eq_false_iff_ne.mpr c17
      have c17b1 : (t918 != 3) = true := bne_iff_ne.mpr c17
      replace H := Option.bind_eq_some_iff.mp H
      obtain ⟨⟨t923, t924, t925⟩, A190, H⟩ := H
      replace H : ((tabardref3_Split.f kj6 a1).bind fun bt926 => ((tabardref3_Nat.f kj6 t924).bind fun t929 => ((tabardref3_Nat.f kj6 bt926.2.1).bind fun t932 => ((tabardref1_Times.f kj6 t929 t932).bind fun t935 => ((tabardref3_Round.f kj6 (t919 != t920) t935 (wrap64 (t925 + bt926.2.2)) false).bind fun t938 => (some t938)))))) = some r := H
      have A19 := zA A190
      clear A190
      replace H := Option.bind_eq_some_iff.mp H
      obtain ⟨⟨t926, t927, t928⟩, A200, H⟩ := H
      replace H : ((tabardref3_Nat.f kj6 t924).bind fun t929 => ((tabardref3_Nat.f kj6 t927).bind fun t932 => ((tabardref1_Times.f kj6 t929 t932).bind fun t935 => ((tabardref3_Round.f kj6 (t919 != t920) t935 (wrap64 (t925 + t928)) false).bind fun t938 => (some t938))))) = some r := H
      have A20 := zA A200
      clear A200
      replace H := Option.bind_eq_some_iff.mp H
      obtain ⟨t929, A210, H⟩ := H
      replace H : ((tabardref3_Nat.f kj6 t927).bind fun t932 => ((tabardref1_Times.f kj6 t929 t932).bind fun t935 => ((tabardref3_Round.f kj6 (t919 != t920) t935 (wrap64 (t925 + t928)) false).bind fun t938 => (some t938)))) = some r := H
      have A21 := zA A210
      clear A210
      replace H := Option.bind_eq_some_iff.mp H
      obtain ⟨t932, A220, H⟩ := H
      replace H : ((tabardref1_Times.f kj6 t929 t932).bind fun t935 => ((tabardref3_Round.f kj6 (t919 != t920) t935 (wrap64 (t925 + t928)) false).bind fun t938 => (some t938))) = some r := H
      have A22 := zA A220
      clear A220
      replace H := Option.bind_eq_some_iff.mp H
      obtain ⟨t935, A230, H⟩ := H
      replace H : ((tabardref3_Round.f kj6 (t919 != t920) t935 (wrap64 (t925 + t928)) false).bind fun t938 => (some t938)) = some r := H
      have A23 := zA A230
      clear A230
      replace H := Option.bind_eq_some_iff.mp H
      obtain ⟨t938, A240, H⟩ := H
      replace H : (some t938) = some r := H
      have A24 := zA A240
      clear A240
      obtain rfl := Option.some.inj H
      go_wp2_with (first | ((with_reducible refine zoq (f := 28) rfl ?_); refine goesL_ (some 58) rfl rfl Try.func28 (by kernel_rfl) rfl #[.int .u64 a0] rfl (by (try simp only [List.map_toArray, List.map_cons, List.map_nil]); first | done | rfl | (simp only [List.length_drop, List.length_take]; rfl)) ?_; (with_reducible refine (tabardref3_Split.calls kj6 a0 t923 t924 t925 _ A19.out).mono ?_); rintro e w' ⟨rfl, ⟨nd, rfl⟩⟩; refine ⟨_, rfl, ?_⟩) | ((with_reducible refine zoq (f := 28) rfl ?_); refine goesL_ (some 64) rfl rfl Try.func28 (by kernel_rfl) rfl #[.int .u64 a1] rfl (by (try simp only [List.map_toArray, List.map_cons, List.map_nil]); first | done | rfl | (simp only [List.length_drop, List.length_take]; rfl)) ?_; (with_reducible refine (tabardref3_Split.calls kj6 a1 t926 t927 t928 _ A20.out).mono ?_); rintro e w' ⟨rfl, ⟨nd, rfl⟩⟩; refine ⟨_, rfl, ?_⟩) | ((with_reducible refine zoq (f := 98) rfl ?_); refine goesL_ (some 70) rfl rfl Try.func98 (by kernel_rfl) rfl #[.int .u64 t924] rfl (by (try simp only [List.map_toArray, List.map_cons, List.map_nil]); first | done | rfl | (simp only [List.length_drop, List.length_take]; rfl)) ?_; (with_reducible refine (tabardref3_Nat.calls kj6 t924 t929 _ A21.out).mono ?_); rintro e w25 ⟨v930, rfl, ho0, hb⟩; refine ⟨_, rfl, ?_⟩; have n0_ := zA (Kd.R_lower ho0 (zfq (by repeat (first | (with_reducible first | exact HB.out | apply zaq | apply zbq | apply zcq) | exact HB.out)))); have n1_ := zA (zeq (by repeat (first | (with_reducible first | exact HB.out | apply zaq | apply zbq | apply zcq) | exact HB.out)) hb); clear HB; have HO931 := n0_; have HB := n1_; clear n0_ n1_; (try clear hb); (try clear hb2); (try clear hk); (try clear hi); (try clear ho0)) | ((with_reducible refine zoq (f := 98) rfl ?_); refine goesL_ (some 72) rfl rfl Try.func98 (by kernel_rfl) rfl #[.int .u64 t927] rfl (by (try simp only [List.map_toArray, List.map_cons, List.map_nil]); first | done | rfl | (simp only [List.length_drop, List.length_take]; rfl)) ?_; (with_reducible refine (tabardref3_Nat.calls kj6 t927 t932 _ A22.out).mono ?_); rintro e w26 ⟨v933, rfl, ho0, hb⟩; refine ⟨_, rfl, ?_⟩; have n0_ := zA (Kd.R_elder' (by (with_reducible repeat (first | apply Kd.R_alloc | apply Kd.R_drewN | apply Kd.R_drew)); exact HO931.out) (Kd.R_base ho0) hb); have n1_ := zA (Kd.R_lower (Kd.R_new' ho0 (Kd.R_lt (by (with_reducible repeat (first | apply Kd.R_alloc | apply Kd.R_drewN | apply Kd.R_drew)); exact HO931.out))) (zfq (by repeat (first | (with_reducible first | exact HB.out | apply zaq | apply zbq | apply zcq) | exact HB.out)))); have n2_ := zA (zeq (by repeat (first | (with_reducible first | exact HB.out | apply zaq | apply zbq | apply zcq) | exact HB.out)) hb); clear HO931; clear HB; have HO931 := n0_; have HO934 := n1_; have HB := n2_; clear n0_ n1_ n2_; (try clear hb); (try clear hb2); (try clear hk); (try clear hi); (try clear ho0); obtain ⟨Ao27, co27, eo27⟩ := Kd.R_slice HO931.out; subst eo27; obtain ⟨Ao28, co28, eo28⟩ := Kd.R_slice HO934.out; subst eo28) | ((with_reducible refine zoq (f := 47) rfl ?_); refine goesL_ (some 73) rfl rfl Try.func47 (by kernel_rfl) rfl #[.slice Ao27 t929.length co27, .slice Ao28 t932.length co28] rfl (by (try simp only [List.map_toArray, List.map_cons, List.map_nil]); first | done | rfl | (simp only [List.length_drop, List.length_take]; rfl)) ?_; (with_reducible refine (tabardref1_Times.calls kj6 _ _ t929 _ _ t932 t935 _ ?side1 ?side2 ?side3 ?side4 A23.out).mono ?_); (case side1 => repeat (first | exact (Kd.R_reads' HO931.out).2.2 | (with_reducible refine Kd.C_alloc ?_ _) | (with_reducible refine Kd.C_drewN ?_ _) | (with_reducible refine Kd.C_drew ?_))); (case side2 => exact (Kd.R_reads' HO931.out).2.1); (case side3 => repeat (first | exact (Kd.R_reads' HO934.out).2.2 | (with_reducible refine Kd.C_alloc ?_ _) | (with_reducible refine Kd.C_drewN ?_ _) | (with_reducible refine Kd.C_drew ?_))); (case side4 => exact (Kd.R_reads' HO934.out).2.1); rintro e w29 ⟨v936, rfl, ho0, hb⟩; refine ⟨_, rfl, ?_⟩; have n0_ := zA (Kd.R_elder' (by (with_reducible repeat (first | apply Kd.R_alloc | apply Kd.R_drewN | apply Kd.R_drew)); exact HO931.out) (Kd.R_base ho0) hb); have n1_ := zA (Kd.R_elder' (by (with_reducible repeat (first | apply Kd.R_alloc | apply Kd.R_drewN | apply Kd.R_drew)); exact HO934.out) (Kd.R_base ho0) hb); have n2_ := zA (Kd.R_lower (Kd.R_new' (Kd.R_new' ho0 (Kd.R_lt (by (with_reducible repeat (first | apply Kd.R_alloc | apply Kd.R_drewN | apply Kd.R_drew)); exact HO931.out))) (Kd.R_lt (by (with_reducible repeat (first | apply Kd.R_alloc | apply Kd.R_drewN | apply Kd.R_drew)); exact HO934.out))) (zfq (by repeat (first | (with_reducible first | exact HB.out | apply zaq | apply zbq | apply zcq) | exact HB.out)))); have n3_ := zA (zeq (by repeat (first | (with_reducible first | exact HB.out | apply zaq | apply zbq | apply zcq) | exact HB.out)) hb); clear HO931; clear HO934; clear HB; have HO931 := n0_; have HO934 := n1_; have HO937 := n2_; have HB := n3_; clear n0_ n1_ n2_ n3_; (try clear hb); (try clear hb2); (try clear hk); (try clear hi); (try clear ho0); obtain ⟨Ao30, co30, eo30⟩ := Kd.R_slice HO937.out; subst eo30) | ((with_reducible refine zoq (f := 21) rfl ?_); refine goesL_ (some 77) rfl rfl Try.func21 (by kernel_rfl) rfl #[.bool (t919 != t920), .slice Ao30 t935.length co30, .int .i64 (wrap64 (t925 + t928)), .bool false] rfl (by (try simp only [List.map_toArray, List.map_cons, List.map_nil]); first | done | rfl | (simp only [List.length_drop, List.length_take]; rfl)) ?_; (with_reducible refine (tabardref3_Round.calls kj6 (t919 != t920) _ _ t935 (wrap64 (t925 + t928)) false t938 _ ?side1 ?side2 A24.out).mono ?_); (case side1 => repeat (first | exact (Kd.R_reads' HO937.out).2.2 | (with_reducible refine Kd.C_alloc ?_ _) | (with_reducible refine Kd.C_drewN ?_ _) | (with_reducible refine Kd.C_drew ?_))); (case side2 => exact (Kd.R_reads' HO937.out).2.1); rintro e w31 ⟨rfl, hb⟩; refine ⟨_, rfl, ?_⟩; have n0_ := zA (Kd.R_below (by (with_reducible repeat (first | apply Kd.R_alloc | apply Kd.R_drewN | apply Kd.R_drew)); exact HO931.out) hb); have n1_ := zA (Kd.R_below (by (with_reducible repeat (first | apply Kd.R_alloc | apply Kd.R_drewN | apply Kd.R_drew)); exact HO934.out) hb); have n2_ := zA (Kd.R_below (by (with_reducible repeat (first | apply Kd.R_alloc | apply Kd.R_drewN | apply Kd.R_drew)); exact HO937.out) hb); have n3_ := zA (zeq (by repeat (first | (with_reducible first | exact HB.out | apply zaq | apply zbq | apply zcq) | exact HB.out)) hb); clear HO931; clear HO934; clear HO937; clear HB; have HO931 := n0_; have HO934 := n1_; have HO937 := n2_; have HB := n3_; clear n0_ n1_ n2_ n3_; (try clear hb); (try clear hb2); (try clear hk); (try clear hi)))
      go_ret
      exact ⟨by first | rfl | (simp [errW_none, errW_some] <;> rfl) | (simp [*, errW_none, errW_some] <;> rfl), by repeat (first | (with_reducible first | exact HB.out | apply zaq | apply zbq | apply zcq) | exact HB.out)⟩

end Go.Proofs.Ytbejjlecpcphoaa.P
