-- Written by a program of this session's (a turned print), not by hand.
import Derived.Test.YtbejjlecpcphoaaPx0
import Derived.Test.YtbejjlecpcphoaaPx14
import Derived.Test.YtbejjlecpcphoaaPx20
import Derived.Test.YtbejjlecpcphoaaPx21
import Derived.Test.YtbejjlecpcphoaaPx51
import Derived.Test.YtbejjlecpcphoaaPx52
import Derived.Test.YtbejjlecpcphoaaPx53
namespace Go.Proofs.Ytbejjlecpcphoaa.P
open Go.RowKit Go.Proofs.YtbejjlecpcphoaaW.PrintWords Go.Proofs.YtbejjlecpcphoaaW.PrintLast Go.Proofs.YtbejjlecpcphoaaW.PrintMore
attribute [local go_sem] max2_int min2_int max_two min_two max_three min_three max_four min_four   -- for this text's walks alone
set_option linter.unusedVariables false
set_option linter.unusedSimpArgs false

/-! ### tabardref4_Add: function 65 -/
mutual
def tabardref4_Add.j0 : Nat → Int → Int → Int → Int → Bool → Option (Int)
 | 0, _, _, _, _, _ => none
 | k + 1, x0, x1, x5, x6, x12 => if x12 = true then (some 9221120237041090560) else (if x5 = 3 then (if x6 = 3 then (tabardref4_Add.j1 k x0 x1 x5 x6 (x0 != x1)) else (tabardref4_Add.j1 k x0 x1 x5 x6 false)) else (tabardref4_Add.j1 k x0 x1 x5 x6 false))
def tabardref4_Add.j1 : Nat → Int → Int → Int → Int → Bool → Option (Int)
 | 0, _, _, _, _, _ => none
 | k + 1, x0, x1, x5, x6, x19 => if x19 = true then (some 9221120237041090560) else (if x5 = 3 then (some x0) else (if x6 = 3 then (some x1) else (if x5 = 0 then (tabardref4_Add.j2 k x0 x1 (x6 == 0)) else (tabardref4_Add.j2 k x0 x1 false))))
def tabardref4_Add.j2 : Nat → Int → Int → Bool → Option (Int)
 | 0, _, _, _ => none
 | k + 1, x0, x1, x39 => if x39 = true then ((tabardref3_Is.f x0).bind fun t892 => (if t892 = true then ((tabardref3_Is.f x1).bind fun t893 => ((tabardref4_zero.f t893).bind fun t894 => (some t894))) else ((tabardref4_zero.f false).bind fun t895 => (some t895)))) else ((tabardref4_Exact.f k x0).bind fun bt896 => ((tabardref4_Exact.f k x1).bind fun bt900 => ((tabardref4_Plus.f k bt896.1 bt896.2 bt900.1 bt900.2).bind fun bt904 => (if (bt904.2.length : Int) = 0 then (some 0) else ((tabardref3_Round.f k bt904.1 bt904.2 (-1074) false).bind fun t909 => (some t909))))))
end
def tabardref4_Add.f (k : Nat) (a0 : Int) (a1 : Int) : Option (Int) := (tabardref3_Kind.f k a0).bind fun t890 => ((tabardref3_Kind.f k a1).bind fun t891 => (if t890 = 4 then (tabardref4_Add.j0 k a0 a1 t890 t891 true) else (tabardref4_Add.j0 k a0 a1 t890 t891 (t891 == 4))))
theorem tabardref4_Add.mono_l : ∀ k, (∀ y0 y1 y2 y3 y4, LeO (tabardref4_Add.j0 k y0 y1 y2 y3 y4) (tabardref4_Add.j0 (k + 1) y0 y1 y2 y3 y4)) ∧ (∀ y0 y1 y2 y3 y4, LeO (tabardref4_Add.j1 k y0 y1 y2 y3 y4) (tabardref4_Add.j1 (k + 1) y0 y1 y2 y3 y4)) ∧ (∀ y0 y1 y2, LeO (tabardref4_Add.j2 k y0 y1 y2) (tabardref4_Add.j2 (k + 1) y0 y1 y2))
 | 0 => ⟨fun _ _ _ _ _ r h => by simp [tabardref4_Add.j0] at h, fun _ _ _ _ _ r h => by simp [tabardref4_Add.j1] at h, fun _ _ _ r h => by simp [tabardref4_Add.j2] at h⟩
 | k + 1 => by
  obtain ⟨ih0, ih1, ih2⟩ := tabardref4_Add.mono_l k
  refine ⟨?_, ?_, ?_⟩
  ·
   intro y0 y1 y2 y3 y4
   unfold tabardref4_Add.j0
   repeat' first
   | (with_reducible exact ih0 _ _ _ _ _)
   | (with_reducible exact ih1 _ _ _ _ _)
   | (with_reducible exact ih2 _ _ _)
   | (with_reducible exact tabardref3_Kind.mono _ _)
   | (with_reducible exact tabardref3_Round.mono _ _ _ _ _)
   | (with_reducible exact tabardref4_Exact.mono _ _)
   | (with_reducible exact tabardref4_Plus.mono _ _ _ _ _)
   | (with_reducible exact LeO.refl _)
   | (with_reducible exact LeO.none _)
   | (with_reducible refine LeO.ite ?_ ?_)
   | (with_reducible refine LeO.bind ?_ (fun _ => ?_))
   | exact ih0 _ _ _ _ _
   | exact ih1 _ _ _ _ _
   | exact ih2 _ _ _
   | exact tabardref3_Kind.mono _ _
   | exact tabardref3_Round.mono _ _ _ _ _
   | exact tabardref4_Exact.mono _ _
   | exact tabardref4_Plus.mono _ _ _ _ _
   | exact LeO.none _
   | refine LeO.ite ?_ ?_
   | refine LeO.bind ?_ (fun _ => ?_)
  ·
   intro y0 y1 y2 y3 y4
   unfold tabardref4_Add.j1
   repeat' first
   | (with_reducible exact ih0 _ _ _ _ _)
   | (with_reducible exact ih1 _ _ _ _ _)
   | (with_reducible exact ih2 _ _ _)
   | (with_reducible exact tabardref3_Kind.mono _ _)
   | (with_reducible exact tabardref3_Round.mono _ _ _ _ _)
   | (with_reducible exact tabardref4_Exact.mono _ _)
   | (with_reducible exact tabardref4_Plus.mono _ _ _ _ _)
   | (with_reducible exact LeO.refl _)
   | (with_reducible exact LeO.none _)
   | (with_reducible refine LeO.ite ?_ ?_)
   | (with_reducible refine LeO.bind ?_ (fun _ => ?_))
   | exact ih0 _ _ _ _ _
   | exact ih1 _ _ _ _ _
   | exact ih2 _ _ _
   | exact tabardref3_Kind.mono _ _
   | exact tabardref3_Round.mono _ _ _ _ _
   | exact tabardref4_Exact.mono _ _
   | exact tabardref4_Plus.mono _ _ _ _ _
   | exact LeO.none _
   | refine LeO.ite ?_ ?_
   | refine LeO.bind ?_ (fun _ => ?_)
  ·
   intro y0 y1 y2
   unfold tabardref4_Add.j2
   repeat' first
   | (with_reducible exact ih0 _ _ _ _ _)
   | (with_reducible exact ih1 _ _ _ _ _)
   | (with_reducible exact ih2 _ _ _)
   | (with_reducible exact tabardref3_Kind.mono _ _)
   | (with_reducible exact tabardref3_Round.mono _ _ _ _ _)
   | (with_reducible exact tabardref4_Exact.mono _ _)
   | (with_reducible exact tabardref4_Plus.mono _ _ _ _ _)
   | (with_reducible exact LeO.refl _)
   | (with_reducible exact LeO.none _)
   | (with_reducible refine LeO.ite ?_ ?_)
   | (with_reducible refine LeO.bind ?_ (fun _ => ?_))
   | exact ih0 _ _ _ _ _
   | exact ih1 _ _ _ _ _
   | exact ih2 _ _ _
   | exact tabardref3_Kind.mono _ _
   | exact tabardref3_Round.mono _ _ _ _ _
   | exact tabardref4_Exact.mono _ _
   | exact tabardref4_Plus.mono _ _ _ _ _
   | exact LeO.none _
   | refine LeO.ite ?_ ?_
   | refine LeO.bind ?_ (fun _ => ?_)
theorem tabardref4_Add.mono : ∀ a0 a1 k, LeO (tabardref4_Add.f k a0 a1) (tabardref4_Add.f (k + 1) a0 a1) := by
 intro a0 a1 k
 obtain ⟨ih0, ih1, ih2⟩ := tabardref4_Add.mono_l k
 unfold tabardref4_Add.f
 repeat' first
   | (with_reducible exact ih0 _ _ _ _ _)
   | (with_reducible exact ih1 _ _ _ _ _)
   | (with_reducible exact ih2 _ _ _)
   | (with_reducible exact tabardref3_Kind.mono _ _)
   | (with_reducible exact tabardref3_Round.mono _ _ _ _ _)
   | (with_reducible exact tabardref4_Exact.mono _ _)
   | (with_reducible exact tabardref4_Plus.mono _ _ _ _ _)
   | (with_reducible exact LeO.refl _)
   | (with_reducible exact LeO.none _)
   | (with_reducible refine LeO.ite ?_ ?_)
   | (with_reducible refine LeO.bind ?_ (fun _ => ?_))
   | exact ih0 _ _ _ _ _
   | exact ih1 _ _ _ _ _
   | exact ih2 _ _ _
   | exact tabardref3_Kind.mono _ _
   | exact tabardref3_Round.mono _ _ _ _ _
   | exact tabardref4_Exact.mono _ _
   | exact tabardref4_Plus.mono _ _ _ _ _
   | exact LeO.none _
   | refine LeO.ite ?_ ?_
   | refine LeO.bind ?_ (fun _ => ?_)
set_option maxHeartbeats 8000000 in
set_option maxRecDepth 100000 in
theorem tabardref4_Add.calls (k : Nat) (a0 : Int) (a1 : Int) (r : Int) (w : World) (h : tabardref4_Add.f k a0 a1 = some r) :
  Calls Try.prog 65 #[.int .u64 a0, .int .u64 a1] w fun e w' => e = .returned (.int .u64 r) ∧ Below w.heap.size w w' := by
 have hu99 := Try.underlying99
 have HB := zA (Below.refl w.heap.size w)
 have H : ((tabardref3_Kind.f k a0).bind fun t890 => ((tabardref3_Kind.f k a1).bind fun t891 => (if t890 = 4 then (tabardref4_Add.j0 k a0 a1 t890 t891 true) else (tabardref4_Add.j0 k a0 a1 t890 t891 (t891 == 4))))) = some r := h
 clear h
 replace H := Option.bind_eq_some_iff.mp H
 obtain ⟨t890, A30, H⟩ := H
 replace H : ((tabardref3_Kind.f k a1).bind fun t891 => (if t890 = 4 then (tabardref4_Add.j0 k a0 a1 t890 t891 true) else (tabardref4_Add.j0 k a0 a1 t890 t891 (t891 == 4)))) = some r := H
 have A3 := zA A30
 clear A30
 replace H := Option.bind_eq_some_iff.mp H
 obtain ⟨t891, A40, H⟩ := H
 replace H : (if t890 = 4 then (tabardref4_Add.j0 k a0 a1 t890 t891 true) else (tabardref4_Add.j0 k a0 a1 t890 t891 (t891 == 4))) = some r := H
 have A4 := zA A40
 clear A40
 have HC5 := zA H
 clear H
 go_enter Try.func65, Try.ntmps65
 go_upto_region 3 with (first | ((with_reducible refine zoq (f := 29) rfl ?_); refine goesL_ (some 9) rfl rfl Try.func29 (by kernel_rfl) rfl #[.int .u64 a0] rfl (by (try simp only [List.map_toArray, List.map_cons, List.map_nil]); first | done | rfl | (simp only [List.length_drop, List.length_take]; rfl)) ?_; (with_reducible refine (tabardref3_Kind.calls k a0 t890 _ A3.out).mono ?_); rintro e w' ⟨rfl, ⟨nd, rfl⟩⟩; refine ⟨_, rfl, ?_⟩) | ((with_reducible refine zoq (f := 29) rfl ?_); refine goesL_ (some 11) rfl rfl Try.func29 (by kernel_rfl) rfl #[.int .u64 a1] rfl (by (try simp only [List.map_toArray, List.map_cons, List.map_nil]); first | done | rfl | (simp only [List.length_drop, List.length_take]; rfl)) ?_; (with_reducible refine (tabardref3_Kind.calls k a1 t891 _ A4.out).mono ?_); rintro e w' ⟨rfl, ⟨nd, rfl⟩⟩; refine ⟨_, rfl, ?_⟩))
 (try simp only [Act.put, List.setIfInBounds_toArray, List.set_cons_zero, List.set_cons_succ])
 go_cut [12] (fun v12 wc => ∃ (kq : Nat) (x12_4 : Bool), v12 = .bool x12_4 ∧ Aside0 (tabardref4_Add.j0 kq a0 a1 t890 t891 x12_4 = some r) ∧ Aside0 (kq ≤ k) ∧ Aside0 (Below w.heap.size w wc))
 case first =>
  have H := HC5.out
  clear HC5
  by_cases c6 : t890 = 4
  ·
   rw [if_pos c6] at H
   have c6b0 : (t890 == 4) = true := beq_iff_eq.mpr c6
   have c6b1 : (t890 != 4) = false := bne_eq_false_iff_eq.mpr c6
   clear c6
   (first | rw [c6b0] | (simp only [i64_w, i32_w]; rw [c6b0]) | skip)
   have H' := zA H
   clear H
   go_wp2
   go_meet
   case rel => exact ⟨_, (true), (by first | rfl | (simp; done) | (simp [*]; done)), H', ⟨by first | omega | exact Nat.le_refl _⟩, ⟨by repeat (first | (with_reducible first | exact HB.out | apply zaq | apply zbq | apply zcq) | exact HB.out)⟩⟩
  ·
   rw [if_neg c6] at H
   have c6b0 : (t890 == 4) = false := beq_eq_false_iff_ne.mpr c6
   have c6b1 : (t890 != 4) = true := bne_iff_ne.mpr c6
   (first | rw [c6b0] | (simp only [i64_w, i32_w]; rw [c6b0]) | skip)
   have H' := zA H
   clear H
   go_wp2
   go_meet
   case rel => exact ⟨_, ((t891 == 4)), (by first | rfl | (simp; done) | (simp [*]; done)), H', ⟨by first | omega | exact Nat.le_refl _⟩, ⟨by repeat (first | (with_reducible first | exact HB.out | apply zaq | apply zbq | apply zcq) | exact HB.out)⟩⟩
 case rest =>
  clear HC5
  try clear c2
  try clear p2
  try clear c6
  try clear c6b0
  try clear c6b1
  obtain ⟨kq, x12_4, rfl, HA, HJ4, HB⟩ := hcut
  cases kq with
  | zero => exact absurd HA.out (by simp [tabardref4_Add.j0])
  | succ kj4 =>
   have H := HA.out
   clear HA
   simp only [tabardref4_Add.j0] at H
   by_cases c7 : x12_4 = true
   ·
    subst c7
    have H1 : (some 9221120237041090560) = some r := by rw [if_pos rfl] at H; exact H
    clear H
    have H := H1
    clear H1
    obtain rfl := Option.some.inj H
    go_wp2
    go_ret
    exact ⟨by first | rfl | (simp [errW_none, errW_some] <;> rfl) | (simp [*, errW_none, errW_some] <;> rfl), by repeat (first | (with_reducible first | exact HB.out | apply zaq | apply zbq | apply zcq) | exact HB.out)⟩
   ·
    replace c7 := Bool.eq_false_iff.mpr c7
    subst c7
    have H1 : (if t890 = 3 then (if t891 = 3 then (tabardref4_Add.j1 kj4 a0 a1 t890 t891 (a0 != a1)) else (tabardref4_Add.j1 kj4 a0 a1 t890 t891 false)) else (tabardref4_Add.j1 kj4 a0 a1 t890 t891 false)) = some r := by rw [if_neg (show ¬ (false = true) by decide)] at H; exact H
    clear H
    have H := H1
    clear H1
    have HC8 := zA H
    clear H
    go_upto_region 5 with (fail)
    go_cut [19] (fun v19 wc => ∃ (kq : Nat) (x19_7 : Bool), v19 = .bool x19_7 ∧ Aside0 (tabardref4_Add.j1 kq a0 a1 t890 t891 x19_7 = some r) ∧ Aside0 (kq ≤ kj4) ∧ Aside0 (Below w.heap.size w wc))
    case first =>
     have H := HC8.out
     clear HC8
     by_cases c9 : t890 = 3
     ·
      rw [if_pos c9] at H
      have c9b0 : (t890 == 3) = true := beq_iff_eq.mpr c9
      have c9b1 : (t890 != 3) = false := bne_eq_false_iff_eq.mpr c9
      clear c9
      (first | rw [c9b0] | (simp only [i64_w, i32_w]; rw [c9b0]) | skip)
      by_cases c10 : t891 = 3
      ·
       rw [if_pos c10] at H
       have c10b0 : (t891 == 3) = true := beq_iff_eq.mpr c10
       have c10b1 : (t891 != 3) = false := bne_eq_false_iff_eq.mpr c10
       clear c10
       have H' := zA H
       clear H
       go_wp2
       go_meet
       case rel => exact ⟨_, ((a0 != a1)), (by first | rfl | (simp; done) | (simp [*]; done)), H', ⟨by have := HJ4.out; first | omega | exact Nat.le_refl _⟩, ⟨by repeat (first | (with_reducible first | exact HB.out | apply zaq | apply zbq | apply zcq) | exact HB.out)⟩⟩
      ·
       rw [if_neg c10] at H
       have c10b0 : (t891 == 3) = false := beq_eq_false_iff_ne.mpr c10
       have c10b1 : (t891 != 3) = true := bne_iff_ne.mpr c10
       have H' := zA H
       clear H
       go_wp2
       go_meet
       case rel => exact ⟨_, (false), (by first | rfl | (simp; done) | (simp [*]; done)), H', ⟨by have := HJ4.out; first | omega | exact Nat.le_refl _⟩, ⟨by repeat (first | (with_reducible first | exact HB.out | apply zaq | apply zbq | apply zcq) | exact HB.out)⟩⟩
     ·
      rw [if_neg c9] at H
      have c9b0 : (t890 == 3) = false := beq_eq_false_iff_ne.mpr c9
      have c9b1 : (t890 != 3) = true := bne_iff_ne.mpr c9
      (first | rw [c9b0] | (simp only [i64_w, i32_w]; rw [c9b0]) | skip)
      have H' := zA H
      clear H
      go_wp2
      go_meet
      case rel => exact ⟨_, (false), (by first | rfl | (simp; done) | (simp [*]; done)), H', ⟨by have := HJ4.out; first | omega | exact Nat.le_refl _⟩, ⟨by repeat (first | (with_reducible first | exact HB.out | apply zaq | apply zbq | apply zcq) | exact HB.out)⟩⟩
    case rest =>
     clear HC8
     try clear c1
     try clear c2
     try clear p2
     try clear c6
     try clear c6b0
     try clear c6b1
     try clear c7
     try clear c9
     try clear c9b0
     try clear c9b1
     try clear c10
     try clear c10b0
     try clear c10b1
     try clear p2
     obtain ⟨kq, x19_7, rfl, HA, HJ7, HB⟩ := hcut
     cases kq with
     | zero => exact absurd HA.out (by simp [tabardref4_Add.j1])
     | succ kj7 =>
      have H := HA.out
      clear HA
      simp only [tabardref4_Add.j1] at H
      by_cases c11 : x19_7 = true
      ·
       subst c11
       have H1 : (some 9221120237041090560) = some r := by rw [if_pos rfl] at H; exact H
       clear H
       have H := H1
       clear H1
       obtain rfl := Option.some.inj H
       go_wp2
       go_ret
       exact ⟨by first | rfl | (simp [errW_none, errW_some] <;> rfl) | (simp [*, errW_none, errW_some] <;> rfl), by repeat (first | (with_reducible first | exact HB.out | apply zaq | apply zbq | apply zcq) | exact HB.out)⟩
      ·
       replace c11 := Bool.eq_false_iff.mpr c11
       subst c11
       have H1 : (if t890 = 3 then (some a0) else (if t891 = 3 then (some a1) else (if t890 = 0 then (tabardref4_Add.j2 kj7 a0 a1 (t891 == 0)) else (tabardref4_Add.j2 kj7 a0 a1 false)))) = some r := by rw [if_neg (show ¬ (false = true) by decide)] at H; exact H
       clear H
       have H := H1
       clear H1
       by_cases c12 : t890 = 3
       ·
        rw [if_pos c12] at H
        have c12b0 : (t890 == 3) = true := beq_iff_eq.mpr c12
        have c12b1 : (t890 != 3) = false := bne_eq_false_iff_eq.mpr c12
        clear c12
        obtain rfl := Option.some.inj H
        go_wp2
        go_ret
        exact ⟨by first | rfl | (simp [errW_none, errW_some] <;> rfl) | (simp [*, errW_none, errW_some] <;> rfl), by repeat (first | (with_reducible first | exact HB.out | apply zaq | apply zbq | apply zcq) | exact HB.out)⟩
       ·
        rw [if_neg c12] at H
        have c12b0 : (t890 == 3) = false := beq_eq_false_iff_ne.mpr c12
        have c12b1 : (t890 != 3) = true := bne_iff_ne.mpr c12
        by_cases c13 : t891 = 3
        ·
         rw [if_pos c13] at H
         have c13b0 : (t891 == 3) = true := beq_iff_eq.mpr c13
         have c13b1 : (t891 != 3) = false := bne_eq_false_iff_eq.mpr c13
         clear c13
         obtain rfl := Option.some.inj H
         go_wp2
         go_ret
         exact ⟨by first | rfl | (simp [errW_none, errW_some] <;> rfl) | (simp [*, errW_none, errW_some] <;> rfl), by repeat (first | (with_reducible first | exact HB.out | apply zaq | apply zbq | apply zcq) | exact HB.out)⟩
        ·
         rw [if_neg c13] at H
         have c13b0 : (t891 == 3) = false := beq_eq_false_iff_ne.mpr c13
         have c13b1 : (t891 != 3) = true := bne_iff_ne.mpr c13
         have HC14 := zA H
         clear H
         go_upto_region 11 with (fail)
         go_cut [39] (fun v39 wc => ∃ (kq : Nat) (x39_13 : Bool), v39 = .bool x39_13 ∧ Aside0 (tabardref4_Add.j2 kq a0 a1 x39_13 = some r) ∧ Aside0 (kq ≤ kj7) ∧ Aside0 (Below w.heap.size w wc))
         case first =>
          have H := HC14.out
          clear HC14
          by_cases c15 : t890 = 0
          ·
           rw [if_pos c15] at H
           have c15b0 : (t890 == 0) = true := beq_iff_eq.mpr c15
           have c15b1 : (t890 != 0) = false := bne_eq_false_iff_eq.mpr c15
           clear c15
           (first | rw [c15b0] | (simp only [i64_w, i32_w]; rw [c15b0]) | skip)
           have H' := zA H
           clear H
           go_wp2
           go_meet
           case rel => exact ⟨_, ((t891 == 0)), (by first | rfl | (simp; done) | (simp [*]; done)), H', ⟨by have := HJ4.out; have := HJ7.out; first | omega | exact Nat.le_refl _⟩, ⟨by repeat (first | (with_reducible first | exact HB.out | apply zaq | apply zbq | apply zcq) | exact HB.out)⟩⟩
          ·
           rw [if_neg c15] at H
           have c15b0 : (t890 == 0) = false := beq_eq_false_iff_ne.mpr c15
           have c15b1 : (t890 != 0) = true := bne_iff_ne.mpr c15
           (first | rw [c15b0] | (simp only [i64_w, i32_w]; rw [c15b0]) | skip)
           have H' := zA H
           clear H
           go_wp2
           go_meet
           case rel => exact ⟨_, (false), (by first | rfl | (simp; done) | (simp [*]; done)), H', ⟨by have := HJ4.out; have := HJ7.out; first | omega | exact Nat.le_refl _⟩, ⟨by repeat (first | (with_reducible first | exact HB.out | apply zaq | apply zbq | apply zcq) | exact HB.out)⟩⟩
         case rest =>
          clear HC14
          try clear c1
          try clear c2
          try clear p2
          try clear c6
          try clear c6b0
          try clear c6b1
          try clear c7
          try clear c9
          try clear c9b0
          try clear c9b1
          try clear c10
          try clear c10b0
          try clear c10b1
          try clear c11
          try clear c12
          try clear c12b0
          try clear c12b1
          try clear c13
          try clear c13b0
          try clear c13b1
          try clear c15
          try clear c15b0
          try clear c15b1
          try clear p2
          obtain ⟨kq, x39_13, rfl, HA, HJ13, HB⟩ := hcut
          cases kq with
          | zero => exact absurd HA.out (by simp [tabardref4_Add.j2])
          | succ kj13 =>
           have H := HA.out
           clear HA
           simp only [tabardref4_Add.j2] at H
           by_cases c16 : x39_13 = true
           ·
            subst c16
            have H1 : ((tabardref3_Is.f a0).bind fun t892 => (if t892 = true then ((tabardref3_Is.f a1).bind fun t893 => ((tabardref4_zero.f t893).bind fun t894 => (some t894))) else ((tabardref4_zero.f false).bind fun t895 => (some t895)))) = some r := by rw [if_pos rfl] at H; exact H
            clear H
            have H := H1
            clear H1
            replace H := Option.bind_eq_some_iff.mp H
            obtain ⟨t892, A170, H⟩ := H
            replace H : (if t892 = true then ((tabardref3_Is.f a1).bind fun t893 => ((tabardref4_zero.f t893).bind fun t894 => (some t894))) else ((tabardref4_zero.f false).bind fun t895 => (some t895))) = some r := H
            have A17 := zA A170
            clear A170
            by_cases c18 : t892 = true
            ·
             subst c18
             have H1 : ((tabardref3_Is.f a1).bind fun t893 => ((tabardref4_zero.f t893).bind fun t894 => (some t894))) = some r := by rw [if_pos rfl] at H; exact H
             clear H
             have H := H1
             clear H1
             replace H := Option.bind_eq_some_iff.mp H
             obtain ⟨t893, A190, H⟩ := H
             replace H : ((tabardref4_zero.f t893).bind fun t894 => (some t894)) = some r := H
             have A19 := zA A190
             clear A190
             replace H := Option.bind_eq_some_iff.mp H
             obtain ⟨t894, A200, H⟩ := H
             replace H : (some t894) = some r := H
             have A20 := zA A200
             clear A200
             obtain rfl := Option.some.inj H
             go_wp2_with (first | ((with_reducible refine zoq (f := 79) rfl ?_); refine goesL_ (some 47) rfl rfl Try.func79 (by kernel_rfl) rfl #[.int .u64 a0] rfl (by (try simp only [List.map_toArray, List.map_cons, List.map_nil]); first | done | rfl | (simp only [List.length_drop, List.length_take]; rfl)) ?_; (with_reducible refine (tabardref3_Is.calls a0 true _ A17.out).mono ?_); rintro e w' ⟨rfl, ⟨nd, rfl⟩⟩; refine ⟨_, rfl, ?_⟩) | (go_at_call 79; (with_reducible refine (tabardref3_Is.calls a1 t893 _ A19.out).mono ?_); rintro e w' ⟨rfl, ⟨nd, rfl⟩⟩) | ((with_reducible refine zoq (f := 94) rfl ?_); refine goesL_ (some 52) rfl rfl Try.func94 (by kernel_rfl) rfl #[.bool t893] rfl (by (try simp only [List.map_toArray, List.map_cons, List.map_nil]); first | done | rfl | (simp only [List.length_drop, List.length_take]; rfl)) ?_; (with_reducible refine (tabardref4_zero.calls t893 t894 _ A20.out).mono ?_); rintro e w' ⟨rfl, ⟨nd, rfl⟩⟩; refine ⟨_, rfl, ?_⟩))
             go_ret
             exact ⟨by first | rfl | (simp [errW_none, errW_some] <;> rfl) | (simp [*, errW_none, errW_some] <;> rfl), by repeat (first | (with_reducible first | exact HB.out | apply zaq | apply zbq | apply zcq) | exact HB.out)⟩
            ·
             replace c18 := Bool.eq_false_iff.mpr c18
             subst c18
             have H1 : ((tabardref4_zero.f false).bind fun t895 => (some t895)) = some r := by rw [if_neg (show ¬ (false = true) by decide)] at H; exact H
             clear H
             have H := H1
             clear H1
             replace H := Option.bind_eq_some_iff.mp H
             obtain ⟨t895, A210, H⟩ := H
             replace H : (some t895) = some r := H
             have A21 := zA A210
             clear A210
             obtain rfl := Option.some.inj H
             go_wp2_with (first | ((with_reducible refine zoq (f := 79) rfl ?_); refine goesL_ (some 47) rfl rfl Try.func79 (by kernel_rfl) rfl #[.int .u64 a0] rfl (by (try simp only [List.map_toArray, List.map_cons, List.map_nil]); first | done | rfl | (simp only [List.length_drop, List.length_take]; rfl)) ?_; (with_reducible refine (tabardref3_Is.calls a0 false _ A17.out).mono ?_); rintro e w' ⟨rfl, ⟨nd, rfl⟩⟩; refine ⟨_, rfl, ?_⟩) | ((with_reducible refine zoq (f := 94) rfl ?_); refine goesL_ (some 52) rfl rfl Try.func94 (by kernel_rfl) rfl #[.bool false] rfl (by (try simp only [List.map_toArray, List.map_cons, List.map_nil]); first | done | rfl | (simp only [List.length_drop, List.length_take]; rfl)) ?_; (with_reducible refine (tabardref4_zero.calls false t895 _ A21.out).mono ?_); rintro e w' ⟨rfl, ⟨nd, rfl⟩⟩; refine ⟨_, rfl, ?_⟩))
             go_ret
             exact ⟨by first | rfl | (simp [errW_none, errW_some] <;> rfl) | (simp [*, errW_none, errW_some] <;> rfl), by repeat (first | (with_reducible first | exact HB.out | apply zaq | apply zbq | apply zcq) | exact HB.out)⟩
           ·
            replace c16 := Bool.eq_false_iff.mpr c16
            subst c16
            have H1 : ((tabardref4_Exact.f kj13 a0).bind fun bt896 => ((tabardref4_Exact.f kj13 a1).bind fun bt900 => ((tabardref4_Plus.f kj13 bt896.1 bt896.2 bt900.1 bt900.2).bind fun bt904 => (if (bt904.2.length : Int) = 0 then (some 0) else ((tabardref3_Round.f kj13 bt904.1 bt904.2 (-1074) false).bind fun t909 => (some t909)))))) = some r := by rw [if_neg (show ¬ (false = true) by decide)] at H; exact H
            clear H
            have H := H1
            clear H1
            replace H := Option.bind_eq_some_iff.mp H
            obtain ⟨⟨t896, t897⟩, A220, H⟩ := H
            replace H : ((tabardref4_Exact.f kj13 a1).bind fun bt900 => ((tabardref4_Plus.f kj13 t896 t897 bt900.1 bt900.2).bind fun bt904 => (if (bt904.2.length : Int) = 0 then (some 0) else ((tabardref3_Round.f kj13 bt904.1 bt904.2 (-1074) false).bind fun t909 => (some t909))))) = some r := H
            have A22 := zA A220
            clear A220
            replace H := Option.bind_eq_some_iff.mp H
            obtain ⟨⟨t900, t901⟩, A230, H⟩ := H
            replace H : ((tabardref4_Plus.f kj13 t896 t897 t900 t901).bind fun bt904 => (if (bt904.2.length : Int) = 0 then (some 0) else ((tabardref3_Round.f kj13 bt904.1 bt904.2 (-1074) false).bind fun t909 => (some t909)))) = some r := H
            have A23 := zA A230
            clear A230
            replace H := Option.bind_eq_some_iff.mp H
            obtain ⟨⟨t904, t905⟩, A240, H⟩ := H
            replace H : (if (t905.length : Int) = 0 then (some 0) else ((tabardref3_Round.f kj13 t904 t905 (-1074) false).bind fun t909 => (some t909))) = some r := H
            have A24 := zA A240
            clear A240
            by_cases c25 : (t905.length : Int) = 0
            ·
             rw [if_pos c25] at H
             have c25b0 : ((t905.length : Int) == 0) = true := beq_iff_eq.mpr c25
             have c25b1 : ((t905.length : Int) != 0) = false := bne_eq_false_iff_eq.mpr c25
             clear c25
             obtain rfl := Option.some.inj H
             go_wp2_with (first | ((with_reducible refine zoq (f := 96) rfl ?_); refine goesL_ (some 54) rfl rfl Try.func96 (by kernel_rfl) rfl #[.int .u64 a0] rfl (by (try simp only [List.map_toArray, List.map_cons, List.map_nil]); first | done | rfl | (simp only [List.length_drop, List.length_take]; rfl)) ?_; (with_reducible refine (tabardref4_Exact.calls kj13 a0 t896 t897 _ A22.out).mono ?_); rintro e w26 ⟨v898, rfl, ho0, hb⟩; refine ⟨_, rfl, ?_⟩; have n0_ := zA (Kd.R_lower ho0 (zfq (by repeat (first | (with_reducible first | exact HB.out | apply zaq | apply zbq | apply zcq) | exact HB.out)))); have n1_ := zA (zeq (by repeat (first | (with_reducible first | exact HB.out | apply zaq | apply zbq | apply zcq) | exact HB.out)) hb); clear HB; have HO899 := n0_; have HB := n1_; clear n0_ n1_; (try clear hb); (try clear hb2); (try clear hk); (try clear hi); (try clear ho0)) | ((with_reducible refine zoq (f := 96) rfl ?_); refine goesL_ (some 56) rfl rfl Try.func96 (by kernel_rfl) rfl #[.int .u64 a1] rfl (by (try simp only [List.map_toArray, List.map_cons, List.map_nil]); first | done | rfl | (simp only [List.length_drop, List.length_take]; rfl)) ?_; (with_reducible refine (tabardref4_Exact.calls kj13 a1 t900 t901 _ A23.out).mono ?_); rintro e w27 ⟨v902, rfl, ho0, hb⟩; refine ⟨_, rfl, ?_⟩; have n0_ := zA (Kd.R_elder' (by (with_reducible repeat (first | apply Kd.R_alloc | apply Kd.R_drewN | apply Kd.R_drew)); exact HO899.out) (Kd.R_base ho0) hb); have n1_ := zA (Kd.R_lower (Kd.R_new' ho0 (Kd.R_lt (by (with_reducible repeat (first | apply Kd.R_alloc | apply Kd.R_drewN | apply Kd.R_drew)); exact HO899.out))) (zfq (by repeat (first | (with_reducible first | exact HB.out | apply zaq | apply zbq | apply zcq) | exact HB.out)))); have n2_ := zA (zeq (by repeat (first | (with_reducible first | exact HB.out | apply zaq | apply zbq | apply zcq) | exact HB.out)) hb); clear HO899; clear HB; have HO899 := n0_; have HO903 := n1_; have HB := n2_; clear n0_ n1_ n2_; (try clear hb); (try clear hb2); (try clear hk); (try clear hi); (try clear ho0); obtain ⟨Ao28, co28, eo28⟩ := Kd.R_slice HO899.out; subst eo28; obtain ⟨Ao29, co29, eo29⟩ := Kd.R_slice HO903.out; subst eo29) | ((with_reducible refine zoq (f := 95) rfl ?_); refine goesL_ (some 57) rfl rfl Try.func95 (by kernel_rfl) rfl #[.agg #[.bool t896, .slice Ao28 t897.length co28], .agg #[.bool t900, .slice Ao29 t901.length co29]] rfl (by (try simp only [List.map_toArray, List.map_cons, List.map_nil]); first | done | rfl | (simp only [List.length_drop, List.length_take]; rfl)) ?_; (with_reducible refine (tabardref4_Plus.calls kj13 t896 _ _ t897 t900 _ _ t901 t904 t905 _ ?side1 ?side2 ?side3 ?side4 A24.out).mono ?_); (case side1 => repeat (first | exact (Kd.R_reads' HO899.out).2.2 | (with_reducible refine Kd.C_alloc ?_ _) | (with_reducible refine Kd.C_drewN ?_ _) | (with_reducible refine Kd.C_drew ?_))); (case side2 => exact (Kd.R_reads' HO899.out).2.1); (case side3 => repeat (first | exact (Kd.R_reads' HO903.out).2.2 | (with_reducible refine Kd.C_alloc ?_ _) | (with_reducible refine Kd.C_drewN ?_ _) | (with_reducible refine Kd.C_drew ?_))); (case side4 => exact (Kd.R_reads' HO903.out).2.1); rintro e w30 ⟨v906, rfl, ho0, hb⟩; refine ⟨_, rfl, ?_⟩; have n0_ := zA (Kd.R_elder' (by (with_reducible repeat (first | apply Kd.R_alloc | apply Kd.R_drewN | apply Kd.R_drew)); exact HO899.out) (Kd.R_base ho0) hb); have n1_ := zA (Kd.R_elder' (by (with_reducible repeat (first | apply Kd.R_alloc | apply Kd.R_drewN | apply Kd.R_drew)); exact HO903.out) (Kd.R_base ho0) hb); have n2_ := zA (Kd.R_lower (Kd.R_new' (Kd.R_new' ho0 (Kd.R_lt (by (with_reducible repeat (first | apply Kd.R_alloc | apply Kd.R_drewN | apply Kd.R_drew)); exact HO899.out))) (Kd.R_lt (by (with_reducible repeat (first | apply Kd.R_alloc | apply Kd.R_drewN | apply Kd.R_drew)); exact HO903.out))) (zfq (by repeat (first | (with_reducible first | exact HB.out | apply zaq | apply zbq | apply zcq) | exact HB.out)))); have n3_ := zA (zeq (by repeat (first | (with_reducible first | exact HB.out | apply zaq | apply zbq | apply zcq) | exact HB.out)) hb); clear HO899; clear HO903; clear HB; have HO899 := n0_; have HO903 := n1_; have HO907 := n2_; have HB := n3_; clear n0_ n1_ n2_ n3_; (try clear hb); (try clear hb2); (try clear hk); (try clear hi); (try clear ho0)) | ((with_reducible refine zpq (N := 7) rfl ?_); refine zqq ?hg (N := 7) ?hd (cs := #[.bool false, .slice none 0 0]) (t := 99) ?hr ?_; (case hd => rfl); (case hg => rfl); (case hr => first | (go_simp; done) | (go_simp; rfl)); intro gb908 hg w31 hbox hb; have n0_ := zA (Kd.R_below (by (with_reducible repeat (first | apply Kd.R_alloc | apply Kd.R_drewN | apply Kd.R_drew)); exact HO899.out) hb); have n1_ := zA (Kd.R_below (by (with_reducible repeat (first | apply Kd.R_alloc | apply Kd.R_drewN | apply Kd.R_drew)); exact HO903.out) hb); have n2_ := zA (Kd.R_below (by (with_reducible repeat (first | apply Kd.R_alloc | apply Kd.R_drewN | apply Kd.R_drew)); exact HO907.out) hb); have n3_ := zA (zeq (by repeat (first | (with_reducible first | exact HB.out | apply zaq | apply zbq | apply zcq) | exact HB.out)) hb); have n4_ := zA (hbox); have n5_ := zA ((by rw [hg]; exact (zfq (by repeat (first | (with_reducible first | exact HB.out | apply zaq | apply zbq | apply zcq) | exact HB.out))) : w.heap.size ≤ gb908)); have n6_ := zA ((by rw [hg]; exact (zfq (by repeat (first | (with_reducible first | exact HB.out | apply zaq | apply zbq | apply zcq) | exact HB.out))) : w.heap.size ≤ gb908)); clear HO899; clear HO903; clear HO907; clear HB; have HO899 := n0_; have HO903 := n1_; have HO907 := n2_; have HB := n3_; have BK908 := n4_; have GW908 := n5_; have GE908 := n6_; clear n0_ n1_ n2_ n3_ n4_ n5_ n6_; clear hb hbox hg; have hcz32_0 : w31.cell? ⟨gb908, 0, none⟩ = some (.bool false) := (zmq BK908.out 0).trans rfl; have hcz32_1 : w31.cell? ⟨gb908, 1, none⟩ = some (.slice none 0 0) := (zmq BK908.out 1).trans rfl; have hfz32_0 := znq BK908.out 0; have hfz32_1 := znq BK908.out 1; obtain ⟨Ao33, co33, eo33⟩ := Kd.R_slice HO907.out; subst eo33))
             go_ret
             exact ⟨by first | rfl | (simp [errW_none, errW_some] <;> rfl) | (simp [*, errW_none, errW_some] <;> rfl), by repeat (first | (with_reducible first | exact HB.out | apply zaq | apply zbq | apply zcq | refine zdq ?_ GE908.out) | exact HB.out)⟩
            ·
             rw [if_neg c25] at H
             have c25b0 : ((t905.length : Int) == 0) = false := beq_eq_false_iff_ne.mpr c25
             have c25b1 : ((t905.length : Int) != 0) = true := bne_iff_ne.mpr c25
             have c25b2 : ¬ (t905 = []) := fun h_ => c25 (by rw [h_]; rfl)
             replace H := Option.bind_eq_some_iff.mp H
             obtain ⟨t909, A340, H⟩ := H
             replace H : (some t909) = some r := H
             have A34 := zA A340
             clear A340
             obtain rfl := Option.some.inj H
             go_wp2_with (first | ((with_reducible refine zoq (f := 96) rfl ?_); refine goesL_ (some 54) rfl rfl Try.func96 (by kernel_rfl) rfl #[.int .u64 a0] rfl (by (try simp only [List.map_toArray, List.map_cons, List.map_nil]); first | done | rfl | (simp only [List.length_drop, List.length_take]; rfl)) ?_; (with_reducible refine (tabardref4_Exact.calls kj13 a0 t896 t897 _ A22.out).mono ?_); rintro e w35 ⟨v898, rfl, ho0, hb⟩; refine ⟨_, rfl, ?_⟩; have n0_ := zA (Kd.R_lower ho0 (zfq (by repeat (first | (with_reducible first | exact HB.out | apply zaq | apply zbq | apply zcq) | exact HB.out)))); have n1_ := zA (zeq (by repeat (first | (with_reducible first | exact HB.out | apply zaq | apply zbq | apply zcq) | exact HB.out)) hb); clear HB; have HO899 := n0_; have HB := n1_; clear n0_ n1_; (try clear hb); (try clear hb2); (try clear hk); (try clear hi); (try clear ho0)) | ((with_reducible refine zoq (f := 96) rfl ?_); refine goesL_ (some 56) rfl rfl Try.func96 (by kernel_rfl) rfl #[.int .u64 a1] rfl (by (try simp only [List.map_toArray, List.map_cons, List.map_nil]); first | done | rfl | (simp only [List.length_drop, List.length_take]; rfl)) ?_; (with_reducible refine (tabardref4_Exact.calls kj13 a1 t900 t901 _ A23.out).mono ?_); rintro e w36 ⟨v902, rfl, ho0, hb⟩; refine ⟨_, rfl, ?_⟩; have n0_ := zA (Kd.R_elder' (by (with_reducible repeat (first | apply Kd.R_alloc | apply Kd.R_drewN | apply Kd.R_drew)); exact HO899.out) (Kd.R_base ho0) hb); have n1_ := zA (Kd.R_lower (Kd.R_new' ho0 (Kd.R_lt (by (with_reducible repeat (first | apply Kd.R_alloc | apply Kd.R_drewN | apply Kd.R_drew)); exact HO899.out))) (zfq (by repeat (first | (with_reducible first | exact HB.out | apply zaq | apply zbq | apply zcq) | exact HB.out)))); have n2_ := zA (zeq (by repeat (first | (with_reducible first | exact HB.out | apply zaq | apply zbq | apply zcq) | exact HB.out)) hb); clear HO899; clear HB; have HO899 := n0_; have HO903 := n1_; have HB := n2_; clear n0_ n1_ n2_; (try clear hb); (try clear hb2); (try clear hk); (try clear hi); (try clear ho0); obtain ⟨Ao37, co37, eo37⟩ := Kd.R_slice HO899.out; subst eo37; obtain ⟨Ao38, co38, eo38⟩ := Kd.R_slice HO903.out; subst eo38) | ((with_reducible refine zoq (f := 95) rfl ?_); refine goesL_ (some 57) rfl rfl Try.func95 (by kernel_rfl) rfl #[.agg #[.bool t896, .slice Ao37 t897.length co37], .agg #[.bool t900, .slice Ao38 t901.length co38]] rfl (by (try simp only [List.map_toArray, List.map_cons, List.map_nil]); first | done | rfl | (simp only [List.length_drop, List.length_take]; rfl)) ?_; (with_reducible refine (tabardref4_Plus.calls kj13 t896 _ _ t897 t900 _ _ t901 t904 t905 _ ?side1 ?side2 ?side3 ?side4 A24.out).mono ?_); (case side1 => repeat (first | exact (Kd.R_reads' HO899.out).2.2 | (with_reducible refine Kd.C_alloc ?_ _) | (with_reducible refine Kd.C_drewN ?_ _) | (with_reducible refine Kd.C_drew ?_))); (case side2 => exact (Kd.R_reads' HO899.out).2.1); (case side3 => repeat (first | exact (Kd.R_reads' HO903.out).2.2 | (with_reducible refine Kd.C_alloc ?_ _) | (with_reducible refine Kd.C_drewN ?_ _) | (with_reducible refine Kd.C_drew ?_))); (case side4 => exact (Kd.R_reads' HO903.out).2.1); rintro e w39 ⟨v906, rfl, ho0, hb⟩; refine ⟨_, rfl, ?_⟩; have n0_ := zA (Kd.R_elder' (by (with_reducible repeat (first | apply Kd.R_alloc | apply Kd.R_drewN | apply Kd.R_drew)); exact HO899.out) (Kd.R_base ho0) hb); have n1_ := zA (Kd.R_elder' (by (with_reducible repeat (first | apply Kd.R_alloc | apply Kd.R_drewN | apply Kd.R_drew)); exact HO903.out) (Kd.R_base ho0) hb); have n2_ := zA (Kd.R_lower (Kd.R_new' (Kd.R_new' ho0 (Kd.R_lt (by (with_reducible repeat (first | apply Kd.R_alloc | apply Kd.R_drewN | apply Kd.R_drew)); exact HO899.out))) (Kd.R_lt (by (with_reducible repeat (first | apply Kd.R_alloc | apply Kd.R_drewN | apply Kd.R_drew)); exact HO903.out))) (zfq (by repeat (first | (with_reducible first | exact HB.out | apply zaq | apply zbq | apply zcq) | exact HB.out)))); have n3_ := zA (zeq (by repeat (first | (with_reducible first | exact HB.out | apply zaq | apply zbq | apply zcq) | exact HB.out)) hb); clear HO899; clear HO903; clear HB; have HO899 := n0_; have HO903 := n1_; have HO907 := n2_; have HB := n3_; clear n0_ n1_ n2_ n3_; (try clear hb); (try clear hb2); (try clear hk); (try clear hi); (try clear ho0)) | ((with_reducible refine zpq (N := 7) rfl ?_); refine zqq ?hg (N := 7) ?hd (cs := #[.bool false, .slice none 0 0]) (t := 99) ?hr ?_; (case hd => rfl); (case hg => rfl); (case hr => first | (go_simp; done) | (go_simp; rfl)); intro gb908 hg w40 hbox hb; have n0_ := zA (Kd.R_below (by (with_reducible repeat (first | apply Kd.R_alloc | apply Kd.R_drewN | apply Kd.R_drew)); exact HO899.out) hb); have n1_ := zA (Kd.R_below (by (with_reducible repeat (first | apply Kd.R_alloc | apply Kd.R_drewN | apply Kd.R_drew)); exact HO903.out) hb); have n2_ := zA (Kd.R_below (by (with_reducible repeat (first | apply Kd.R_alloc | apply Kd.R_drewN | apply Kd.R_drew)); exact HO907.out) hb); have n3_ := zA (zeq (by repeat (first | (with_reducible first | exact HB.out | apply zaq | apply zbq | apply zcq) | exact HB.out)) hb); have n4_ := zA (hbox); have n5_ := zA ((by rw [hg]; exact (zfq (by repeat (first | (with_reducible first | exact HB.out | apply zaq | apply zbq | apply zcq) | exact HB.out))) : w.heap.size ≤ gb908)); have n6_ := zA ((by rw [hg]; exact (zfq (by repeat (first | (with_reducible first | exact HB.out | apply zaq | apply zbq | apply zcq) | exact HB.out))) : w.heap.size ≤ gb908)); clear HO899; clear HO903; clear HO907; clear HB; have HO899 := n0_; have HO903 := n1_; have HO907 := n2_; have HB := n3_; have BK908 := n4_; have GW908 := n5_; have GE908 := n6_; clear n0_ n1_ n2_ n3_ n4_ n5_ n6_; clear hb hbox hg; have hcz41_0 : w40.cell? ⟨gb908, 0, none⟩ = some (.bool false) := (zmq BK908.out 0).trans rfl; have hcz41_1 : w40.cell? ⟨gb908, 1, none⟩ = some (.slice none 0 0) := (zmq BK908.out 1).trans rfl; have hfz41_0 := znq BK908.out 0; have hfz41_1 := znq BK908.out 1; obtain ⟨Ao42, co42, eo42⟩ := Kd.R_slice HO907.out; subst eo42) | ((with_reducible refine zoq (f := 21) rfl ?_); refine goesL_ (some 66) rfl rfl Try.func21 (by kernel_rfl) rfl #[.bool t904, .slice Ao42 t905.length co42, .int .i64 (-1074), .bool false] rfl (by (try simp only [List.map_toArray, List.map_cons, List.map_nil]); first | done | rfl | (simp only [List.length_drop, List.length_take]; rfl)) ?_; (with_reducible refine (tabardref3_Round.calls kj13 t904 _ _ t905 (-1074) false t909 _ ?side1 ?side2 A34.out).mono ?_); (case side1 => refine (Kd.R_reads' (e := 40) (base := w.heap.size) (ok := fun k_ => ((True ∧ some k_ ≠ (.slice Ao37 t897.length co37 : Value).ownBlock) ∧ some k_ ≠ (.slice Ao38 t901.length co38 : Value).ownBlock)) (n := t905.length) (c := co42) ?_).2.2; exact (by (with_reducible repeat (first | apply Kd.R_alloc | apply Kd.R_drewN | apply Kd.R_drew)); exact (Kd.R_mono (Kd.R_far (p := ⟨gb908, 1, none⟩) (Kd.R_far (p := ⟨gb908, 0, none⟩) (Kd.R_types HO907.out BK908.out (by decide)) (fun _ hk => hk.2) (.bool t904)) (fun _ hk => hk.2) (.slice Ao42 t905.length co42)) (fun _ h_ => h_.1)))); (case side2 => exact (Kd.R_reads' HO907.out).2.1); rintro e w43 ⟨rfl, hb⟩; refine ⟨_, rfl, ?_⟩; have n0_ := zA (Kd.R_below (by (with_reducible repeat (first | apply Kd.R_alloc | apply Kd.R_drewN | apply Kd.R_drew)); exact (Kd.R_mono (Kd.R_far (p := ⟨gb908, 1, none⟩) (Kd.R_far (p := ⟨gb908, 0, none⟩) (Kd.R_types HO899.out BK908.out (by decide)) (fun _ hk => hk.2) (.bool t904)) (fun _ hk => hk.2) (.slice Ao42 t905.length co42)) (fun _ h_ => h_.1))) hb); have n1_ := zA (Kd.R_below (by (with_reducible repeat (first | apply Kd.R_alloc | apply Kd.R_drewN | apply Kd.R_drew)); exact (Kd.R_mono (Kd.R_far (p := ⟨gb908, 1, none⟩) (Kd.R_far (p := ⟨gb908, 0, none⟩) (Kd.R_types HO903.out BK908.out (by decide)) (fun _ hk => hk.2) (.bool t904)) (fun _ hk => hk.2) (.slice Ao42 t905.length co42)) (fun _ h_ => h_.1))) hb); have n2_ := zA (Kd.R_below (by (with_reducible repeat (first | apply Kd.R_alloc | apply Kd.R_drewN | apply Kd.R_drew)); exact (Kd.R_mono (Kd.R_far (p := ⟨gb908, 1, none⟩) (Kd.R_far (p := ⟨gb908, 0, none⟩) (Kd.R_types HO907.out BK908.out (by decide)) (fun _ hk => hk.2) (.bool t904)) (fun _ hk => hk.2) (.slice Ao42 t905.length co42)) (fun _ h_ => h_.1))) hb); have n3_ := zA (zlq (g := gb908) (o := .cells #[.bool t904, .slice Ao42 t905.length co42] 99 (0, 0)) (by (with_reducible repeat (first | refine zgq ?_ _ | refine zhq ?_ | refine ziq ?_ _)); refine zkq (cs := #[.bool t904, .slice none 0 0]) ?_ 1 _ rfl; (with_reducible repeat (first | refine zgq ?_ _ | refine zhq ?_ | refine ziq ?_ _)); refine zkq (cs := #[.bool false, .slice none 0 0]) ?_ 0 _ rfl; (with_reducible repeat (first | refine zgq ?_ _ | refine zhq ?_ | refine ziq ?_ _)); exact BK908.out) hb); have n4_ := zA (zeq (by repeat (first | (with_reducible first | exact HB.out | apply zaq | apply zbq | apply zcq | refine zdq ?_ GE908.out) | exact HB.out)) hb); clear HO899; clear HO903; clear HO907; clear BK908; clear HB; have HO899 := n0_; have HO903 := n1_; have HO907 := n2_; have BK908 := n3_; have HB := n4_; clear n0_ n1_ n2_ n3_ n4_; (try clear hb); (try clear hb2); (try clear hk); (try clear hi)))
             go_ret
             exact ⟨by first | rfl | (simp [errW_none, errW_some] <;> rfl) | (simp [*, errW_none, errW_some] <;> rfl), by repeat (first | (with_reducible first | exact HB.out | apply zaq | apply zbq | apply zcq | refine zdq ?_ GE908.out) | exact HB.out)⟩

/-! ### tabardref4_Sub: function 67 -/
def tabardref4_Sub.f (k : Nat) (a0 : Int) (a1 : Int) : Option (Int) := (tabardref3_Neg.f k a1).bind fun t910 => ((tabardref4_Add.f k a0 t910).bind fun t911 => (some t911))
theorem tabardref4_Sub.mono : ∀ a0 a1 k, LeO (tabardref4_Sub.f k a0 a1) (tabardref4_Sub.f (k + 1) a0 a1) := by
 intro a0 a1 k
 unfold tabardref4_Sub.f
 repeat' first
   | (with_reducible exact tabardref3_Neg.mono _ _)
   | (with_reducible exact tabardref4_Add.mono _ _ _)
   | (with_reducible exact LeO.refl _)
   | (with_reducible exact LeO.none _)
   | (with_reducible refine LeO.ite ?_ ?_)
   | (with_reducible refine LeO.bind ?_ (fun _ => ?_))
   | exact tabardref3_Neg.mono _ _
   | exact tabardref4_Add.mono _ _ _
   | exact LeO.none _
   | refine LeO.ite ?_ ?_
   | refine LeO.bind ?_ (fun _ => ?_)
set_option maxHeartbeats 8000000 in
set_option maxRecDepth 100000 in
theorem tabardref4_Sub.calls (k : Nat) (a0 : Int) (a1 : Int) (r : Int) (w : World) (h : tabardref4_Sub.f k a0 a1 = some r) :
  Calls Try.prog 67 #[.int .u64 a0, .int .u64 a1] w fun e w' => e = .returned (.int .u64 r) ∧ Below w.heap.size w w' := by
 have HB := zA (Below.refl w.heap.size w)
 have H : ((tabardref3_Neg.f k a1).bind fun t910 => ((tabardref4_Add.f k a0 t910).bind fun t911 => (some t911))) = some r := h
 clear h
 replace H := Option.bind_eq_some_iff.mp H
 obtain ⟨t910, A30, H⟩ := H
 replace H : ((tabardref4_Add.f k a0 t910).bind fun t911 => (some t911)) = some r := H
 have A3 := zA A30
 clear A30
 replace H := Option.bind_eq_some_iff.mp H
 obtain ⟨t911, A40, H⟩ := H
 replace H : (some t911) = some r := H
 have A4 := zA A40
 clear A40
 obtain rfl := Option.some.inj H
 go_enter Try.func67, Try.ntmps67
 go_wp2_with (first | ((with_reducible refine zoq (f := 33) rfl ?_); refine goesL_ (some 7) rfl rfl Try.func33 (by kernel_rfl) rfl #[.int .u64 a1] rfl (by (try simp only [List.map_toArray, List.map_cons, List.map_nil]); first | done | rfl | (simp only [List.length_drop, List.length_take]; rfl)) ?_; (with_reducible refine (tabardref3_Neg.calls k a1 t910 _ A3.out).mono ?_); rintro e w' ⟨rfl, ⟨nd, rfl⟩⟩; refine ⟨_, rfl, ?_⟩) | ((with_reducible refine zoq (f := 65) rfl ?_); refine goesL_ (some 8) rfl rfl Try.func65 (by kernel_rfl) rfl #[.int .u64 a0, .int .u64 t910] rfl (by (try simp only [List.map_toArray, List.map_cons, List.map_nil]); first | done | rfl | (simp only [List.length_drop, List.length_take]; rfl)) ?_; (with_reducible refine (tabardref4_Add.calls k a0 t910 t911 _ A4.out).mono ?_); rintro e w5 ⟨rfl, hb⟩; refine ⟨_, rfl, ?_⟩; have n0_ := zA (zeq (by repeat (first | (with_reducible first | exact HB.out | apply zaq | apply zbq | apply zcq) | exact HB.out)) hb); clear HB; have HB := n0_; clear n0_; (try clear hb); (try clear hb2); (try clear hk); (try clear hi)))
 go_ret
 exact ⟨by first | rfl | (simp [errW_none, errW_some] <;> rfl) | (simp [*, errW_none, errW_some] <;> rfl), by repeat (first | (with_reducible first | exact HB.out | apply zaq | apply zbq | apply zcq) | exact HB.out)⟩

end Go.Proofs.Ytbejjlecpcphoaa.P
