-- Written by a program of this session's (a turned print), not by hand.
import Derived.Test.YtbejjlecpcphoaaPx0
import Derived.Test.YtbejjlecpcphoaaPx11
namespace Go.Proofs.Ytbejjlecpcphoaa.P
open Go.RowKit Go.Proofs.YtbejjlecpcphoaaW.PrintWords Go.Proofs.YtbejjlecpcphoaaW.PrintLast Go.Proofs.YtbejjlecpcphoaaW.PrintMore
attribute [local go_sem] max2_int min2_int max_two min_two max_three min_three max_four min_four   -- for this text's walks alone
set_option linter.unusedVariables false
set_option linter.unusedSimpArgs false

/-! ### tabardref2_Nat: function 22 -/
def tabardref2_Nat.f (k : Nat) (a0 : Int) (a1 : Int) (a2 : Int) : Option (List Int) := (tabardref1_Trim.f k (([(Int.tmod a2 4294967296) % 4294967296, (a2 / 4294967296) % 4294967296, (Int.tmod a1 4294967296) % 4294967296, (a1 / 4294967296) % 4294967296, (Int.tmod a0 4294967296) % 4294967296, (a0 / 4294967296) % 4294967296] : List Int))).bind fun t217 => (some t217)
theorem tabardref2_Nat.mono : ∀ a0 a1 a2 k, LeO (tabardref2_Nat.f k a0 a1 a2) (tabardref2_Nat.f (k + 1) a0 a1 a2) := by
 intro a0 a1 a2 k
 unfold tabardref2_Nat.f
 repeat' first
   | (with_reducible exact tabardref1_Trim.mono _ _)
   | (with_reducible exact LeO.refl _)
   | (with_reducible exact LeO.none _)
   | (with_reducible refine LeO.ite ?_ ?_)
   | (with_reducible refine LeO.bind ?_ (fun _ => ?_))
   | exact tabardref1_Trim.mono _ _
   | exact LeO.none _
   | refine LeO.ite ?_ ?_
   | refine LeO.bind ?_ (fun _ => ?_)
set_option maxHeartbeats 8000000 in
set_option maxRecDepth 100000 in
theorem tabardref2_Nat.calls (k : Nat) (a0 : Int) (a1 : Int) (a2 : Int) (r : List Int) (w : World) (h : tabardref2_Nat.f k a0 a1 a2 = some r) :
  Calls Try.prog 22 #[.int .u64 a0, .int .u64 a1, .int .u64 a2] w fun e w' => ∃ v0_ : Value, e = .returned (v0_) ∧ Kd.R (Kd.int .u32) 40 w' w.heap.size (fun _ => True) v0_ r ∧ Below w.heap.size w w' := by
 have HB := zA (Below.refl w.heap.size w)
 have H : ((tabardref1_Trim.f k (([(Int.tmod a2 4294967296) % 4294967296, (a2 / 4294967296) % 4294967296, (Int.tmod a1 4294967296) % 4294967296, (a1 / 4294967296) % 4294967296, (Int.tmod a0 4294967296) % 4294967296, (a0 / 4294967296) % 4294967296] : List Int))).bind fun t217 => (some t217)) = some r := h
 clear h
 obtain ⟨y214, hy214⟩ : ∃ y_ : List Int, y_ = (([(Int.tmod a2 4294967296) % 4294967296, (a2 / 4294967296) % 4294967296, (Int.tmod a1 4294967296) % 4294967296, (a1 / 4294967296) % 4294967296, (Int.tmod a0 4294967296) % 4294967296, (a0 / 4294967296) % 4294967296] : List Int)) := ⟨_, rfl⟩
 replace H : ((tabardref1_Trim.f k y214).bind fun t217 => (some t217)) = some r := by first | (rw [hy214]; with_reducible exact H) | (have H2_ := (Option.bind_some _ _).symm.trans H; rw [hy214]; with_reducible exact H2_) | (have H2_ := (Option.bind_some _ _).symm.trans H; with_reducible exact H2_) | with_reducible exact H | (rw [hy214]; exact H) | exact H
 have Ny214 := zA hy214
 clear hy214
 replace H := Option.bind_eq_some_iff.mp H
 obtain ⟨t217, A40, H⟩ := H
 replace H : (some t217) = some r := H
 have A4 := zA A40
 clear A40
 obtain rfl := Option.some.inj H
 go_enter Try.func22, Try.ntmps22
 go_wp2_with (first | ((with_reducible refine zpq (N := 26) rfl ?_); refine Kd.R_lit (Kd.int .u32) _ 40 ?hg (N := 26) ?hd (xs := ([(Int.tmod a2 4294967296) % 4294967296, (a2 / 4294967296) % 4294967296, (Int.tmod a1 4294967296) % 4294967296, (a1 / 4294967296) % 4294967296, (Int.tmod a0 4294967296) % 4294967296, (a0 / 4294967296) % 4294967296] : List Int)) (inner := [.int .u32 ((Int.tmod a2 4294967296) % 4294967296), .int .u32 ((a2 / 4294967296) % 4294967296), .int .u32 ((Int.tmod a1 4294967296) % 4294967296), .int .u32 ((a1 / 4294967296) % 4294967296), .int .u32 ((Int.tmod a0 4294967296) % 4294967296), .int .u32 ((a0 / 4294967296) % 4294967296)]) (ok := fun _ => True) (okp := fun _ => True) ?hr ?hp (fun _ hk => hk) trivial (Below.refl _ _) (Nat.le_refl _) (by simp) ?_; (case hd => rfl); (case hg => rfl); (case hr => first | (go_simp; done) | (go_simp; rfl)); (case hp => exact (Reps.one (show Kd.M (Kd.int .u32) _ _ _ ((Int.tmod a2 4294967296) % 4294967296) [.int .u32 ((Int.tmod a2 4294967296) % 4294967296)] from rfl) (Reps.one (show Kd.M (Kd.int .u32) _ _ _ ((a2 / 4294967296) % 4294967296) [.int .u32 ((a2 / 4294967296) % 4294967296)] from rfl) (Reps.one (show Kd.M (Kd.int .u32) _ _ _ ((Int.tmod a1 4294967296) % 4294967296) [.int .u32 ((Int.tmod a1 4294967296) % 4294967296)] from rfl) (Reps.one (show Kd.M (Kd.int .u32) _ _ _ ((a1 / 4294967296) % 4294967296) [.int .u32 ((a1 / 4294967296) % 4294967296)] from rfl) (Reps.one (show Kd.M (Kd.int .u32) _ _ _ ((Int.tmod a0 4294967296) % 4294967296) [.int .u32 ((Int.tmod a0 4294967296) % 4294967296)] from rfl) (Reps.one (show Kd.M (Kd.int .u32) _ _ _ ((a0 / 4294967296) % 4294967296) [.int .u32 ((a0 / 4294967296) % 4294967296)] from rfl) (Reps.none _ _)))))))); intro v215 w5 ho6 hb hg_ hnew_; clear hg_ hnew_; (first | rw [← Ny214.out] at ho6 | (simp only [Int.reduceToNat] at ho6; rw [← Ny214.out] at ho6)); have n0_ := zA (Kd.R_lower ho6 (zfq (by repeat (first | (with_reducible first | exact HB.out | apply zaq | apply zbq | apply zcq) | exact HB.out)))); have n1_ := zA (zeq (by repeat (first | (with_reducible first | exact HB.out | apply zaq | apply zbq | apply zcq) | exact HB.out)) hb); clear HB; have HO216 := n0_; have HB := n1_; clear n0_ n1_; clear hb ho6; obtain ⟨Ao7, co7, eo7⟩ := Kd.R_slice HO216.out; subst eo7) | ((with_reducible refine zoq (f := 78) rfl ?_); refine goesL_ (some 28) rfl rfl Try.func78 (by kernel_rfl) rfl #[.slice Ao7 y214.length co7] rfl (by (try simp only [List.map_toArray, List.map_cons, List.map_nil]); first | done | rfl | (simp only [List.length_drop, List.length_take]; rfl)) ?_; (with_reducible refine (tabardref1_Trim.calls k _ _ y214 t217 _ ?side1 ?side2 A4.out).mono ?_); (case side1 => repeat (first | exact (Kd.R_reads' HO216.out).2.2 | (with_reducible refine Kd.C_alloc ?_ _) | (with_reducible refine Kd.C_drewN ?_ _) | (with_reducible refine Kd.C_drew ?_))); (case side2 => exact (Kd.R_reads' HO216.out).2.1); rintro e w8 ⟨v218, rfl, ho0, hb⟩; refine ⟨_, rfl, ?_⟩; have n0_ := zA (Kd.R_elder' (by (with_reducible repeat (first | apply Kd.R_alloc | apply Kd.R_drewN | apply Kd.R_drew)); exact HO216.out) (Kd.R_base ho0) hb); have n1_ := zA (Kd.R_lower (Kd.R_new' ho0 (Kd.R_lt (by (with_reducible repeat (first | apply Kd.R_alloc | apply Kd.R_drewN | apply Kd.R_drew)); exact HO216.out))) (zfq (by repeat (first | (with_reducible first | exact HB.out | apply zaq | apply zbq | apply zcq) | exact HB.out)))); have n2_ := zA (zeq (by repeat (first | (with_reducible first | exact HB.out | apply zaq | apply zbq | apply zcq) | exact HB.out)) hb); clear HO216; clear HB; have HO216 := n0_; have HO219 := n1_; have HB := n2_; clear n0_ n1_ n2_; (try clear hb); (try clear hb2); (try clear hk); (try clear hi); (try clear ho0)))
 go_ret
 exact ⟨_, by first | rfl | (simp [errW_none, errW_some] <;> rfl) | (simp [*, errW_none, errW_some] <;> rfl), by (with_reducible repeat (first | apply Kd.R_alloc | apply Kd.R_drewN | apply Kd.R_drew)); exact Kd.R_mono HO219.out (fun _ hk => trivial), by repeat (first | (with_reducible first | exact HB.out | apply zaq | apply zbq | apply zcq) | exact HB.out)⟩

end Go.Proofs.Ytbejjlecpcphoaa.P
