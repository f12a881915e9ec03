-- Written by a program of this session's (a turned print), not by hand.
import Derived.Test.YtbejjlecpcphoaaPx0
import Derived.Test.YtbejjlecpcphoaaPx9
import Derived.Test.YtbejjlecpcphoaaPx10
import Derived.Test.YtbejjlecpcphoaaPx20
import Derived.Test.YtbejjlecpcphoaaPx21
namespace Go.Proofs.Ytbejjlecpcphoaa.P
open Go.RowKit Go.Proofs.YtbejjlecpcphoaaW.PrintWords Go.Proofs.YtbejjlecpcphoaaW.PrintLast Go.Proofs.YtbejjlecpcphoaaW.PrintMore
attribute [local go_sem] max2_int min2_int max_two min_two max_three min_three max_four min_four   -- for this text's walks alone
set_option linter.unusedVariables false
set_option linter.unusedSimpArgs false

/-! ### tabardlaw3_FloatParts: function 6 -/
def tabardlaw3_FloatParts.f (k : Nat) (a0 : Int) : Option (Bool) := (tabardlaw3_shown.f k).bind fun t279 => ((float_Split.f k a0).bind fun bt280 => ((tabardref3_Split.f k a0).bind fun bt283 => ((float_Kind.f k a0).bind fun t286 => ((tabardref3_Kind.f k a0).bind fun t287 => (if t286 = t287 then ((float_Right.f k a0).bind fun t288 => ((tabardref3_Right.f k a0).bind fun t289 => (if t288 = t289 then (if (bt280.1 == bt283.1) = true then (if bt280.2.1 = bt283.2.1 then (if t279 = true then (if bt280.2.2 = bt283.2.2 then ((float_Neg.f k a0).bind fun t290 => ((tabardref3_Neg.f k a0).bind fun t291 => (if t290 = t291 then ((float_Abs.f k a0).bind fun t292 => ((tabardref3_Abs.f k a0).bind fun t293 => (if t292 = t293 then ((float_Next.f k a0).bind fun t294 => ((tabardref3_Next.f k a0).bind fun t295 => (if t294 = t295 then ((float_Prev.f k a0).bind fun t296 => ((tabardref3_Prev.f k a0).bind fun t297 => (some (t296 == t297)))) else (none)))) else (none)))) else (none)))) else (none)) else (none)) else (none)) else (none)) else (none)))) else (none))))))
theorem tabardlaw3_FloatParts.mono : ∀ a0 k, LeO (tabardlaw3_FloatParts.f k a0) (tabardlaw3_FloatParts.f (k + 1) a0) := by
 intro a0 k
 unfold tabardlaw3_FloatParts.f
 repeat' first
   | (with_reducible exact float_Abs.mono _ _)
   | (with_reducible exact float_Kind.mono _ _)
   | (with_reducible exact float_Neg.mono _ _)
   | (with_reducible exact float_Next.mono _ _)
   | (with_reducible exact float_Prev.mono _ _)
   | (with_reducible exact float_Right.mono _ _)
   | (with_reducible exact float_Split.mono _ _)
   | (with_reducible exact tabardlaw3_shown.mono _)
   | (with_reducible exact tabardref3_Abs.mono _ _)
   | (with_reducible exact tabardref3_Kind.mono _ _)
   | (with_reducible exact tabardref3_Neg.mono _ _)
   | (with_reducible exact tabardref3_Next.mono _ _)
   | (with_reducible exact tabardref3_Prev.mono _ _)
   | (with_reducible exact tabardref3_Right.mono _ _)
   | (with_reducible exact tabardref3_Split.mono _ _)
   | (with_reducible exact LeO.refl _)
   | (with_reducible exact LeO.none _)
   | (with_reducible refine LeO.ite ?_ ?_)
   | (with_reducible refine LeO.bind ?_ (fun _ => ?_))
   | exact float_Abs.mono _ _
   | exact float_Kind.mono _ _
   | exact float_Neg.mono _ _
   | exact float_Next.mono _ _
   | exact float_Prev.mono _ _
   | exact float_Right.mono _ _
   | exact float_Split.mono _ _
   | exact tabardlaw3_shown.mono _
   | exact tabardref3_Abs.mono _ _
   | exact tabardref3_Kind.mono _ _
   | exact tabardref3_Neg.mono _ _
   | exact tabardref3_Next.mono _ _
   | exact tabardref3_Prev.mono _ _
   | exact tabardref3_Right.mono _ _
   | exact tabardref3_Split.mono _ _
   | exact LeO.none _
   | refine LeO.ite ?_ ?_
   | refine LeO.bind ?_ (fun _ => ?_)
set_option maxHeartbeats 8000000 in
set_option maxRecDepth 100000 in
theorem tabardlaw3_FloatParts.calls (k : Nat) (a0 : Int) (r : Bool) (w : World) (h : tabardlaw3_FloatParts.f k a0 = some r) :
  Calls Try.prog 6 #[.int .u64 a0] w fun e w' => e = .returned (.bool r) ∧ Below w.heap.size w w' := by
 have HB := zA (Below.refl w.heap.size w)
 have H : ((tabardlaw3_shown.f k).bind fun t279 => ((float_Split.f k a0).bind fun bt280 => ((tabardref3_Split.f k a0).bind fun bt283 => ((float_Kind.f k a0).bind fun t286 => ((tabardref3_Kind.f k a0).bind fun t287 => (if t286 = t287 then ((float_Right.f k a0).bind fun t288 => ((tabardref3_Right.f k a0).bind fun t289 => (if t288 = t289 then (if (bt280.1 == bt283.1) = true then (if bt280.2.1 = bt283.2.1 then (if t279 = true then (if bt280.2.2 = bt283.2.2 then ((float_Neg.f k a0).bind fun t290 => ((tabardref3_Neg.f k a0).bind fun t291 => (if t290 = t291 then ((float_Abs.f k a0).bind fun t292 => ((tabardref3_Abs.f k a0).bind fun t293 => (if t292 = t293 then ((float_Next.f k a0).bind fun t294 => ((tabardref3_Next.f k a0).bind fun t295 => (if t294 = t295 then ((float_Prev.f k a0).bind fun t296 => ((tabardref3_Prev.f k a0).bind fun t297 => (some (t296 == t297)))) else (none)))) else (none)))) else (none)))) else (none)) else (none)) else (none)) else (none)) else (none)))) else (none))))))) = some r := h
 clear h
 replace H := Option.bind_eq_some_iff.mp H
 obtain ⟨t279, A20, H⟩ := H
 replace H : ((float_Split.f k a0).bind fun bt280 => ((tabardref3_Split.f k a0).bind fun bt283 => ((float_Kind.f k a0).bind fun t286 => ((tabardref3_Kind.f k a0).bind fun t287 => (if t286 = t287 then ((float_Right.f k a0).bind fun t288 => ((tabardref3_Right.f k a0).bind fun t289 => (if t288 = t289 then (if (bt280.1 == bt283.1) = true then (if bt280.2.1 = bt283.2.1 then (if t279 = true then (if bt280.2.2 = bt283.2.2 then ((float_Neg.f k a0).bind fun t290 => ((tabardref3_Neg.f k a0).bind fun t291 => (if t290 = t291 then ((float_Abs.f k a0).bind fun t292 => ((tabardref3_Abs.f k a0).bind fun t293 => (if t292 = t293 then ((float_Next.f k a0).bind fun t294 => ((tabardref3_Next.f k a0).bind fun t295 => (if t294 = t295 then ((float_Prev.f k a0).bind fun t296 => ((tabardref3_Prev.f k a0).bind fun t297 => (some (t296 == t297)))) else (none)))) else (none)))) else (none)))) else (none)) else (none)) else (none)) else (none)) else (none)))) else (none)))))) = some r := H
 have A2 := zA A20
 clear A20
 replace H := Option.bind_eq_some_iff.mp H
 obtain ⟨⟨t280, t281, t282⟩, A30, H⟩ := H
 replace H : ((tabardref3_Split.f k a0).bind fun bt283 => ((float_Kind.f k a0).bind fun t286 => ((tabardref3_Kind.f k a0).bind fun t287 => (if t286 = t287 then ((float_Right.f k a0).bind fun t288 => ((tabardref3_Right.f k a0).bind fun t289 => (if t288 = t289 then (if (t280 == bt283.1) = true then (if t281 = bt283.2.1 then (if t279 = true then (if t282 = bt283.2.2 then ((float_Neg.f k a0).bind fun t290 => ((tabardref3_Neg.f k a0).bind fun t291 => (if t290 = t291 then ((float_Abs.f k a0).bind fun t292 => ((tabardref3_Abs.f k a0).bind fun t293 => (if t292 = t293 then ((float_Next.f k a0).bind fun t294 => ((tabardref3_Next.f k a0).bind fun t295 => (if t294 = t295 then ((float_Prev.f k a0).bind fun t296 => ((tabardref3_Prev.f k a0).bind fun t297 => (some (t296 == t297)))) else (none)))) else (none)))) else (none)))) else (none)) else (none)) else (none)) else (none)) else (none)))) else (none))))) = some r := H
 have A3 := zA A30
 clear A30
 replace H := Option.bind_eq_some_iff.mp H
 obtain ⟨⟨t283, t284, t285⟩, A40, H⟩ := H
 replace H : ((float_Kind.f k a0).bind fun t286 => ((tabardref3_Kind.f k a0).bind fun t287 => (if t286 = t287 then ((float_Right.f k a0).bind fun t288 => ((tabardref3_Right.f k a0).bind fun t289 => (if t288 = t289 then (if (t280 == t283) = true then (if t281 = t284 then (if t279 = true then (if t282 = t285 then ((float_Neg.f k a0).bind fun t290 => ((tabardref3_Neg.f k a0).bind fun t291 => (if t290 = t291 then ((float_Abs.f k a0).bind fun t292 => ((tabardref3_Abs.f k a0).bind fun t293 => (if t292 = t293 then ((float_Next.f k a0).bind fun t294 => ((tabardref3_Next.f k a0).bind fun t295 => (if t294 = t295 then ((float_Prev.f k a0).bind fun t296 => ((tabardref3_Prev.f k a0).bind fun t297 => (some (t296 == t297)))) else (none)))) else (none)))) else (none)))) else (none)) else (none)) else (none)) else (none)) else (none)))) else (none)))) = some r := H
 have A4 := zA A40
 clear A40
 replace H := Option.bind_eq_some_iff.mp H
 obtain ⟨t286, A50, H⟩ := H
 replace H : ((tabardref3_Kind.f k a0).bind fun t287 => (if t286 = t287 then ((float_Right.f k a0).bind fun t288 => ((tabardref3_Right.f k a0).bind fun t289 => (if t288 = t289 then (if (t280 == t283) = true then (if t281 = t284 then (if t279 = true then (if t282 = t285 then ((float_Neg.f k a0).bind fun t290 => ((tabardref3_Neg.f k a0).bind fun t291 => (if t290 = t291 then ((float_Abs.f k a0).bind fun t292 => ((tabardref3_Abs.f k a0).bind fun t293 => (if t292 = t293 then ((float_Next.f k a0).bind fun t294 => ((tabardref3_Next.f k a0).bind fun t295 => (if t294 = t295 then ((float_Prev.f k a0).bind fun t296 => ((tabardref3_Prev.f k a0).bind fun t297 => (some (t296 == t297)))) else (none)))) else (none)))) else (none)))) else (none)) else (none)) else (none)) else (none)) else (none)))) else (none))) = some r := H
 have A5 := zA A50
 clear A50
 replace H := Option.bind_eq_some_iff.mp H
 obtain ⟨t287, A60, H⟩ := H
 replace H : (if t286 = t287 then ((float_Right.f k a0).bind fun t288 => ((tabardref3_Right.f k a0).bind fun t289 => (if t288 = t289 then (if (t280 == t283) = true then (if t281 = t284 then (if t279 = true then (if t282 = t285 then ((float_Neg.f k a0).bind fun t290 => ((tabardref3_Neg.f k a0).bind fun t291 => (if t290 = t291 then ((float_Abs.f k a0).bind fun t292 => ((tabardref3_Abs.f k a0).bind fun t293 => (if t292 = t293 then ((float_Next.f k a0).bind fun t294 => ((tabardref3_Next.f k a0).bind fun t295 => (if t294 = t295 then ((float_Prev.f k a0).bind fun t296 => ((tabardref3_Prev.f k a0).bind fun t297 => (some (t296 == t297)))) else (none)))) else (none)))) else (none)))) else (none)) else (none)) else (none)) else (none)) else (none)))) else (none)) = some r := H
 have A6 := zA A60
 clear A60
 by_cases c7 : t286 = t287
 ·
  rw [if_pos c7] at H
  have c7b0 : (t286 == t287) = true := beq_iff_eq.mpr c7
  have c7b1 : (t286 != t287) = false := bne_eq_false_iff_eq.mpr c7
  clear c7
  replace H := Option.bind_eq_some_iff.mp H
  obtain ⟨t288, A80, H⟩ := H
  replace H : ((tabardref3_Right.f k a0).bind fun t289 => (if t288 = t289 then (if (t280 == t283) = true then (if t281 = t284 then (if t279 = true then (if t282 = t285 then ((float_Neg.f k a0).bind fun t290 => ((tabardref3_Neg.f k a0).bind fun t291 => (if t290 = t291 then ((float_Abs.f k a0).bind fun t292 => ((tabardref3_Abs.f k a0).bind fun t293 => (if t292 = t293 then ((float_Next.f k a0).bind fun t294 => ((tabardref3_Next.f k a0).bind fun t295 => (if t294 = t295 then ((float_Prev.f k a0).bind fun t296 => ((tabardref3_Prev.f k a0).bind fun t297 => (some (t296 == t297)))) else (none)))) else (none)))) else (none)))) else (none)) else (none)) else (none)) else (none)) else (none))) = some r := H
  have A8 := zA A80
  clear A80
  replace H := Option.bind_eq_some_iff.mp H
  obtain ⟨t289, A90, H⟩ := H
  replace H : (if t288 = t289 then (if (t280 == t283) = true then (if t281 = t284 then (if t279 = true then (if t282 = t285 then ((float_Neg.f k a0).bind fun t290 => ((tabardref3_Neg.f k a0).bind fun t291 => (if t290 = t291 then ((float_Abs.f k a0).bind fun t292 => ((tabardref3_Abs.f k a0).bind fun t293 => (if t292 = t293 then ((float_Next.f k a0).bind fun t294 => ((tabardref3_Next.f k a0).bind fun t295 => (if t294 = t295 then ((float_Prev.f k a0).bind fun t296 => ((tabardref3_Prev.f k a0).bind fun t297 => (some (t296 == t297)))) else (none)))) else (none)))) else (none)))) else (none)) else (none)) else (none)) else (none)) else (none)) = some r := H
  have A9 := zA A90
  clear A90
  by_cases c10 : t288 = t289
  ·
   rw [if_pos c10] at H
   have c10b0 : (t288 == t289) = true := beq_iff_eq.mpr c10
   have c10b1 : (t288 != t289) = false := bne_eq_false_iff_eq.mpr c10
   clear c10
   by_cases c11 : (t280 == t283) = true
   ·
    rw [if_pos c11] at H
    have c11b0 : (t280 == t283) = true := c11
    (try (have c11b1 : decide (t280 = t283) = true := by simpa using c11))
    (try (have c11b2 : (t280 == t283) = true := by simpa using c11))
    clear c11
    by_cases c12 : t281 = t284
    ·
     rw [if_pos c12] at H
     have c12b0 : (t281 == t284) = true := beq_iff_eq.mpr c12
     have c12b1 : (t281 != t284) = false := bne_eq_false_iff_eq.mpr c12
     clear c12
     by_cases c13 : t279 = true
     ·
      subst c13
      have H1 : (if t282 = t285 then ((float_Neg.f k a0).bind fun t290 => ((tabardref3_Neg.f k a0).bind fun t291 => (if t290 = t291 then ((float_Abs.f k a0).bind fun t292 => ((tabardref3_Abs.f k a0).bind fun t293 => (if t292 = t293 then ((float_Next.f k a0).bind fun t294 => ((tabardref3_Next.f k a0).bind fun t295 => (if t294 = t295 then ((float_Prev.f k a0).bind fun t296 => ((tabardref3_Prev.f k a0).bind fun t297 => (some (t296 == t297)))) else (none)))) else (none)))) else (none)))) else (none)) = some r := by rw [if_pos rfl] at H; exact H
      clear H
      have H := H1
      clear H1
      by_cases c14 : t282 = t285
      ·
       rw [if_pos c14] at H
       have c14b0 : (t282 == t285) = true := beq_iff_eq.mpr c14
       have c14b1 : (t282 != t285) = false := bne_eq_false_iff_eq.mpr c14
       clear c14
       replace H := Option.bind_eq_some_iff.mp H
       obtain ⟨t290, A150, H⟩ := H
       replace H : ((tabardref3_Neg.f k a0).bind fun t291 => (if t290 = t291 then ((float_Abs.f k a0).bind fun t292 => ((tabardref3_Abs.f k a0).bind fun t293 => (if t292 = t293 then ((float_Next.f k a0).bind fun t294 => ((tabardref3_Next.f k a0).bind fun t295 => (if t294 = t295 then ((float_Prev.f k a0).bind fun t296 => ((tabardref3_Prev.f k a0).bind fun t297 => (some (t296 == t297)))) else (none)))) else (none)))) else (none))) = some r := H
       have A15 := zA A150
       clear A150
       replace H := Option.bind_eq_some_iff.mp H
       obtain ⟨t291, A160, H⟩ := H
       replace H : (if t290 = t291 then ((float_Abs.f k a0).bind fun t292 => ((tabardref3_Abs.f k a0).bind fun t293 => (if t292 = t293 then ((float_Next.f k a0).bind fun t294 => ((tabardref3_Next.f k a0).bind fun t295 => (if t294 = t295 then ((float_Prev.f k a0).bind fun t296 => ((tabardref3_Prev.f k a0).bind fun t297 => (some (t296 == t297)))) else (none)))) else (none)))) else (none)) = some r := H
       have A16 := zA A160
       clear A160
       by_cases c17 : t290 = t291
       ·
        rw [if_pos c17] at H
        have c17b0 : (t290 == t291) = true := beq_iff_eq.mpr c17
        have c17b1 : (t290 != t291) = false := bne_eq_false_iff_eq.mpr c17
        clear c17
        replace H := Option.bind_eq_some_iff.mp H
        obtain ⟨t292, A180, H⟩ := H
        replace H : ((tabardref3_Abs.f k a0).bind fun t293 => (if t292 = t293 then ((float_Next.f k a0).bind fun t294 => ((tabardref3_Next.f k a0).bind fun t295 => (if t294 = t295 then ((float_Prev.f k a0).bind fun t296 => ((tabardref3_Prev.f k a0).bind fun t297 => (some (t296 == t297)))) else (none)))) else (none))) = some r := H
        have A18 := zA A180
        clear A180
        replace H := Option.bind_eq_some_iff.mp H
        obtain ⟨t293, A190, H⟩ := H
        replace H : (if t292 = t293 then ((float_Next.f k a0).bind fun t294 => ((tabardref3_Next.f k a0).bind fun t295 => (if t294 = t295 then ((float_Prev.f k a0).bind fun t296 => ((tabardref3_Prev.f k a0).bind fun t297 => (some (t296 == t297)))) else (none)))) else (none)) = some r := H
        have A19 := zA A190
        clear A190
        by_cases c20 : t292 = t293
        ·
         rw [if_pos c20] at H
         have c20b0 : (t292 == t293) = true := beq_iff_eq.mpr c20
         have c20b1 : (t292 != t293) = false := bne_eq_false_iff_eq.mpr c20
         clear c20
         replace H := Option.bind_eq_some_iff.mp H
         obtain ⟨t294, A210, H⟩ := H
         replace H : ((tabardref3_Next.f k a0).bind fun t295 => (if t294 = t295 then ((float_Prev.f k a0).bind fun t296 => ((tabardref3_Prev.f k a0).bind fun t297 => (some (t296 == t297)))) else (none))) = some r := H
         have A21 := zA A210
         clear A210
         replace H := Option.bind_eq_some_iff.mp H
         obtain ⟨t295, A220, H⟩ := H
         replace H : (if t294 = t295 then ((float_Prev.f k a0).bind fun t296 => ((tabardref3_Prev.f k a0).bind fun t297 => (some (t296 == t297)))) else (none)) = some r := H
         have A22 := zA A220
         clear A220
         by_cases c23 : t294 = t295
         ·
          rw [if_pos c23] at H
          have c23b0 : (t294 == t295) = true := beq_iff_eq.mpr c23
          have c23b1 : (t294 != t295) = false := bne_eq_false_iff_eq.mpr c23
          clear c23
          replace H := Option.bind_eq_some_iff.mp H
          obtain ⟨t296, A240, H⟩ := H
          replace H : ((tabardref3_Prev.f k a0).bind fun t297 => (some (t296 == t297))) = some r := H
          have A24 := zA A240
          clear A240
          replace H := Option.bind_eq_some_iff.mp H
          obtain ⟨t297, A250, H⟩ := H
          replace H : (some (t296 == t297)) = some r := H
          have A25 := zA A250
          clear A250
          obtain rfl := Option.some.inj H
          go_enter Try.func6, Try.ntmps6
          go_wp2_with (first | ((with_reducible refine zoq (f := 19) rfl ?_); refine goesL_ (some 11) rfl rfl Try.func19 (by kernel_rfl) rfl #[] rfl (by (try simp only [List.map_toArray, List.map_cons, List.map_nil]); first | done | rfl | (simp only [List.length_drop, List.length_take]; rfl)) ?_; (with_reducible refine (tabardlaw3_shown.calls k  true _ A2.out).mono ?_); rintro e w26 ⟨rfl, hb⟩; refine ⟨_, rfl, ?_⟩; have n0_ := zA (zeq (by repeat (first | (with_reducible first | exact HB.out | apply zaq | apply zbq | apply zcq) | exact HB.out)) hb); clear HB; have HB := n0_; clear n0_; (try clear hb); (try clear hb2); (try clear hk); (try clear hi)) | ((with_reducible refine zoq (f := 26) rfl ?_); refine goesL_ (some 14) rfl rfl Try.func26 (by kernel_rfl) rfl #[.int .u64 a0] rfl (by (try simp only [List.map_toArray, List.map_cons, List.map_nil]); first | done | rfl | (simp only [List.length_drop, List.length_take]; rfl)) ?_; (with_reducible refine (float_Split.calls k a0 t280 t281 t282 _ A3.out).mono ?_); rintro e w' ⟨rfl, ⟨nd, rfl⟩⟩; refine ⟨_, rfl, ?_⟩) | ((with_reducible refine zoq (f := 28) rfl ?_); refine goesL_ (some 20) rfl rfl Try.func28 (by kernel_rfl) rfl #[.int .u64 a0] rfl (by (try simp only [List.map_toArray, List.map_cons, List.map_nil]); first | done | rfl | (simp only [List.length_drop, List.length_take]; rfl)) ?_; (with_reducible refine (tabardref3_Split.calls k a0 t283 t284 t285 _ A4.out).mono ?_); rintro e w' ⟨rfl, ⟨nd, rfl⟩⟩; refine ⟨_, rfl, ?_⟩) | ((with_reducible refine zoq (f := 23) rfl ?_); refine goesL_ (some 25) rfl rfl Try.func23 (by kernel_rfl) rfl #[.int .u64 a0] rfl (by (try simp only [List.map_toArray, List.map_cons, List.map_nil]); first | done | rfl | (simp only [List.length_drop, List.length_take]; rfl)) ?_; (with_reducible refine (float_Kind.calls k a0 t286 _ A5.out).mono ?_); rintro e w' ⟨rfl, ⟨nd, rfl⟩⟩; refine ⟨_, rfl, ?_⟩) | ((with_reducible refine zoq (f := 29) rfl ?_); refine goesL_ (some 27) rfl rfl Try.func29 (by kernel_rfl) rfl #[.int .u64 a0] rfl (by (try simp only [List.map_toArray, List.map_cons, List.map_nil]); first | done | rfl | (simp only [List.length_drop, List.length_take]; rfl)) ?_; (with_reducible refine (tabardref3_Kind.calls k a0 t287 _ A6.out).mono ?_); rintro e w' ⟨rfl, ⟨nd, rfl⟩⟩; refine ⟨_, rfl, ?_⟩) | (go_at_call 30; (with_reducible refine (float_Right.calls k a0 t288 _ A8.out).mono ?_); rintro e w' ⟨rfl, ⟨nd, rfl⟩⟩) | (go_at_call 31; (with_reducible refine (tabardref3_Right.calls k a0 t289 _ A9.out).mono ?_); rintro e w' ⟨rfl, ⟨nd, rfl⟩⟩) | (go_at_call 32; (with_reducible refine (float_Neg.calls k a0 t290 _ A15.out).mono ?_); rintro e w' ⟨rfl, ⟨nd, rfl⟩⟩) | (go_at_call 33; (with_reducible refine (tabardref3_Neg.calls k a0 t291 _ A16.out).mono ?_); rintro e w' ⟨rfl, ⟨nd, rfl⟩⟩) | (go_at_call 34; (with_reducible refine (float_Abs.calls k a0 t292 _ A18.out).mono ?_); rintro e w' ⟨rfl, ⟨nd, rfl⟩⟩) | (go_at_call 35; (with_reducible refine (tabardref3_Abs.calls k a0 t293 _ A19.out).mono ?_); rintro e w' ⟨rfl, ⟨nd, rfl⟩⟩) | (go_at_call 24; (with_reducible refine (float_Next.calls k a0 t294 _ A21.out).mono ?_); rintro e w' ⟨rfl, ⟨nd, rfl⟩⟩) | (go_at_call 36; (with_reducible refine (tabardref3_Next.calls k a0 t295 _ A22.out).mono ?_); rintro e w' ⟨rfl, ⟨nd, rfl⟩⟩) | (go_at_call 25; (with_reducible refine (float_Prev.calls k a0 t296 _ A24.out).mono ?_); rintro e w' ⟨rfl, ⟨nd, rfl⟩⟩) | (go_at_call 37; (with_reducible refine (tabardref3_Prev.calls k a0 t297 _ A25.out).mono ?_); rintro e w' ⟨rfl, ⟨nd, rfl⟩⟩))
          go_ret
          exact ⟨by first | rfl | (simp [errW_none, errW_some] <;> rfl) | (simp [*, errW_none, errW_some] <;> rfl), by repeat (first | (with_reducible first | exact HB.out | apply zaq | apply zbq | apply zcq) | exact HB.out)⟩
         ·
          rw [if_neg c23] at H
          exact absurd H (by simp)
        ·
         rw [if_neg c20] at H
         exact absurd H (by simp)
       ·
        rw [if_neg c17] at H
        exact absurd H (by simp)
      ·
       rw [if_neg c14] at H
       exact absurd H (by simp)
     ·
      replace c13 := Bool.eq_false_iff.mpr c13
      subst c13
      have H1 : (none) = some r := by rw [if_neg (show ¬ (false = true) by decide)] at H; exact H
      clear H
      have H := H1
      clear H1
      exact absurd H (by simp)
    ·
     rw [if_neg c12] at H
     exact absurd H (by simp)
   ·
    rw [if_neg c11] at H
    exact absurd H (by simp)
  ·
   rw [if_neg c10] at H
   exact absurd H (by simp)
 ·
  rw [if_neg c7] at H
  exact absurd H (by simp)

/-- THE ONE PURE STATEMENT of tabardlaw3_FloatParts: yours. -/
def tabardlaw3_FloatParts.Pure : Prop := ∀ (a0 : Int), (Lit.int .u64 a0).wf = true → ∃ k, tabardlaw3_FloatParts.f k a0 = some true
theorem tabardlaw3_FloatParts.walk (P : tabardlaw3_FloatParts.Pure) (a0 : Int) (w : World) (w0 : (Lit.int .u64 a0).wf = true) :
  Calls Try.prog 6 #[.int .u64 a0] w fun e w' => e = .returned (.bool true) ∧ Below w.heap.size w w' := by
 obtain ⟨k, h⟩ := P a0 w0
 refine (tabardlaw3_FloatParts.calls k a0 true w h).mono ?_
 rintro e w' ⟨rfl, hd⟩
 exact ⟨rfl, hd⟩

end Go.Proofs.Ytbejjlecpcphoaa.P
