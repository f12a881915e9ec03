/-
  The reference's kinds, parts and neighbours of a float are package float's.
-/
import Derived.Test.YtbejjlecpcphoaaPx20
import Derived.Test.YtbejjlecpcphoaaPx21
import Derived.Test.YtbejjlecpcphoaaQF1
namespace Go.Proofs.Ytbejjlecpcphoaa.Q
set_option linter.unusedVariables false
open Go.RowKit Go.Proofs.YtbejjlecpcphoaaW.PrintWords Go.Proofs.YtbejjlecpcphoaaW.PrintLast Go.Proofs.YtbejjlecpcphoaaW.PrintMore
open Go.Proofs.Ytbejjlecpcphoaa.P Go.Proofs.Ytbejjlecpcphoaa.LL Go.Proofs.Ytbejjlecpcphoaa.FM

theorem rE_eq (x : Nat) : Int.tmod ((x : Int) / 4503599627370496) 2048 = ((fE x : Nat) : Int) := by
  unfold fE; rw [show (x : Int) / 4503599627370496 = ((x / 4503599627370496 : Nat) : Int) from rfl, Int.tmod_eq_emod_of_nonneg (Int.natCast_nonneg _)]; rfl
theorem rM_eq (x : Nat) : Int.tmod (x : Int) 4503599627370496 = ((fM x : Nat) : Int) := by
  unfold fM; rw [Int.tmod_eq_emod_of_nonneg (Int.natCast_nonneg _)]; rfl
theorem rkind_ev (x : Nat) : Ev (fun k => tabardref3_Kind.f k (x : Int)) (kd x) := by
  unfold tabardref3_Kind.f
  rw [rE_eq, rM_eq]
  have hM := fM_lt x
  have hE := fE_lt x
  have hk := kd_cases x
  generalize kd x = K at *
  generalize fE x = E at *
  generalize fM x = M at *
  have j1 : ∀ (b : Bool) (r : Int), (b = true → r = 0) → (b = false → r = if (E : Int) = 0 then 1 else 2) → Ev (fun k => tabardref3_Kind.j1 k (E : Int) b) r := by
    intro b r h1 h2
    refine Ev.step (f := fun _ => some r) (fun k => ?_) (Ev.now _)
    simp only [tabardref3_Kind.j1]
    cases b with
    | true => rw [if_pos rfl, h1 rfl]
    | false => rw [if_neg (by simp), h2 rfl]; split <;> rfl
  have j0 : ∀ b : Bool, (b = true → K = 3) → (b = false → K ≠ 3) → Ev (fun k => tabardref3_Kind.j0 k (E : Int) (M : Int) b) K := by
    intro b h1 h2
    cases b with
    | true =>
      rw [h1 rfl]
      refine Ev.step (f := fun _ => some 3) (fun k => ?_) (Ev.now _)
      simp only [tabardref3_Kind.j0]
      rw [if_pos trivial]
    | false =>
      have h3 := h2 rfl
      refine Ev.step (f := fun k => if (E : Int) = 2047 then (some 4) else (if (E : Int) = 0 then (tabardref3_Kind.j1 k (E : Int) ((M : Int) == 0)) else (tabardref3_Kind.j1 k (E : Int) false))) (fun k => ?_) ?_
      · simp only [tabardref3_Kind.j0]
        rw [if_neg (by simp)]
      by_cases h4 : (E : Int) = 2047
      · have : K = 4 := by omega
        rw [this]
        exact Ev.congr (fun k => if_pos h4) (Ev.now _)
      · refine Ev.congr (fun k => if_neg h4) ?_
        by_cases h5 : (E : Int) = 0
        · refine Ev.congr (fun k => if_pos h5) (j1 _ _ (fun hb => ?_) (fun hb => ?_))
          · have : (M : Int) = 0 := by simpa using hb
            omega
          · have : (M : Int) ≠ 0 := by simpa using hb
            rw [if_pos h5]; omega
        · refine Ev.congr (fun k => if_neg h5) (j1 _ _ (fun hb => by cases hb) (fun hb => ?_))
          rw [if_neg h5]; omega
  by_cases h1 : (E : Int) = 2047
  · refine Ev.congr (fun k => if_pos h1) (j0 _ (fun hb => ?_) (fun hb => ?_))
    · have : (M : Int) = 0 := by simpa using hb
      omega
    · have : (M : Int) ≠ 0 := by simpa using hb
      omega
  · exact Ev.congr (fun k => if_neg h1) (j0 _ (fun hb => by cases hb) (fun _ => by omega))
theorem rsplit_ev (x : Nat) : Ev (fun k => tabardref3_Split.f k (x : Int)) (decide ((x : Int) ≥ 9223372036854775808), ((sM x : Nat) : Int), sE x) := by
  have hM := fM_lt x
  have hE := fE_lt x
  have hk := kd_cases x
  have eI : tabardref3_Is.f (x : Int) = some (decide ((x : Int) ≥ 9223372036854775808)) := rfl
  have e1 : IntKind.u64.wrap (4503599627370496 + ((fM x : Nat) : Int)) = ((4503599627370496 + fM x : Nat) : Int) := by rw [wu (by omega) (by omega)]; rfl
  have w1 : wrap64 (wrap64 ((fE x : Nat) : Int) - 1075) = ((fE x : Nat) : Int) - 1075 := by rw [w64 (x := ((fE x : Nat) : Int)) (by clear e1; omega) (by clear e1; omega), w64 (by clear e1; omega) (by clear e1; omega)]
  unfold tabardref3_Split.f
  refine Ev.bind (rkind_ev x) ?_
  have j0 : ∀ b : Bool, (b = true → kd x < 2) → (kd x < 2 → b = true) → Ev (fun k => tabardref3_Split.j0 k (x : Int) (kd x) b) (decide ((x : Int) ≥ 9223372036854775808), ((sM x : Nat) : Int), sE x) := by
    intro b h1 h2
    unfold sM sE
    by_cases hb : b = true
    · have h3 := h1 hb
      subst hb
      rw [if_neg (show ¬ kd x = 2 by clear e1 w1; omega), if_pos h3, if_neg (show ¬ kd x = 2 by clear e1 w1; omega), if_pos h3]
      refine Ev.step (f := fun _ => some _) (fun k => ?_) (Ev.now _)
      simp only [tabardref3_Split.j0]; rw [if_pos trivial, bind_eq eI, rM_eq]
    · have h3 : ¬ kd x < 2 := fun hh => hb (h2 hh)
      refine Ev.step (f := fun _ => some _) (fun k => ?_) (Ev.now _)
      simp only [tabardref3_Split.j0]
      rw [if_neg hb]
      by_cases h4 : kd x = 2
      · rw [if_pos h4, if_pos h4, if_pos h4, bind_eq eI, rM_eq, rE_eq, e1, w1]
      · rw [if_neg h4, if_neg h4, if_neg h4, if_neg h3, if_neg h3, bind_eq eI]; rfl
  by_cases h0 : kd x = 0
  · exact Ev.congr (fun k => if_pos h0) (j0 _ (fun _ => by rw [h0]; decide) (fun _ => by rw [h0]; rfl))
  · refine Ev.congr (fun k => if_neg h0) (j0 _ (fun hb => ?_) (fun hl => ?_))
    · have : kd x = 1 := by simpa using hb
      rw [this]; decide
    · have : kd x = 1 := by clear e1 w1; omega
      rw [this]; rfl
theorem rneg_ev (x : Nat) : Ev (fun k => tabardref3_Neg.f k (x : Int)) ((ngt x : Nat) : Int) := by
  have e : IntKind.u64.wrap ((x : Int) + 9223372036854775808) = (((x + 9223372036854775808) % 18446744073709551616 : Nat) : Int) := by rw [wu64]; rfl
  unfold tabardref3_Neg.f
  rw [e]
  refine Ev.bind (rkind_ev x) ?_
  unfold ngt
  by_cases h4 : kd x = 4
  · refine Ev.congr (fun k => if_pos h4) ?_
    rw [if_pos h4]; exact Ev.now _
  · refine Ev.congr (fun k => if_neg h4) ?_
    rw [if_neg h4]; exact Ev.now _
end Go.Proofs.Ytbejjlecpcphoaa.Q
