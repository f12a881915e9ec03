-- Written by a program of this session's (a turned print), not by hand.
import Derived.Test.YtbejjlecpcphoaaPx0
import Derived.Test.YtbejjlecpcphoaaPx47
import Derived.Test.YtbejjlecpcphoaaPx49
import Derived.Test.YtbejjlecpcphoaaPx50
import Derived.Test.YtbejjlecpcphoaaPx58
namespace Go.Proofs.Ytbejjlecpcphoaa.P
open Go.RowKit Go.Proofs.YtbejjlecpcphoaaW.PrintWords Go.Proofs.YtbejjlecpcphoaaW.PrintLast Go.Proofs.YtbejjlecpcphoaaW.PrintMore
attribute [local go_sem] max2_int min2_int max_two min_two max_three min_three max_four min_four   -- for this text's walks alone
set_option linter.unusedVariables false
set_option linter.unusedSimpArgs false

/-! ### tabardlaw4_ArithSums: function 16 -/
mutual
def tabardlaw4_ArithSums.j0 : Nat → List Int → Bool → Bool → Option (Bool)
 | 0, _, _, _ => none
 | k + 1, x0, x3, x13 => if x13 = true then (some x3) else (tabardlaw4_ArithSums.l0 k x0 0 0)
def tabardlaw4_ArithSums.l0 : Nat → List Int → Int → Int → Option (Bool)
 | 0, _, _, _ => none
 | k + 1, x0, x4, x5 => if x5 < (x0.length : Int) then (if 0 ≤ x5 then ((arith_Add.f k x4 (rd x0 x5)).bind fun t946 => (tabardlaw4_ArithSums.l0 k x0 t946 (wrap64 (x5 + 1)))) else (none)) else ((arith_Sum.f k x0).bind fun t947 => ((tabardref4_Sum.f k x0).bind fun t948 => (if t947 = t948 then ((arith_Sum.f k x0).bind fun t949 => (some (t949 == x4))) else (none))))
end
def tabardlaw4_ArithSums.f (k : Nat) (l0 : List Int) : Option (Bool) := (tabardlaw4_shown.f k).bind fun t944 => (if t944 = true then (tabardlaw4_ArithSums.j0 k l0 t944 (decide ((l0.length : Int) > 200))) else (tabardlaw4_ArithSums.j0 k l0 t944 true))
theorem tabardlaw4_ArithSums.mono_l : ∀ k, (∀ y0 y1 y2, LeO (tabardlaw4_ArithSums.j0 k y0 y1 y2) (tabardlaw4_ArithSums.j0 (k + 1) y0 y1 y2)) ∧ (∀ y0 y1 y2, LeO (tabardlaw4_ArithSums.l0 k y0 y1 y2) (tabardlaw4_ArithSums.l0 (k + 1) y0 y1 y2))
 | 0 => ⟨fun _ _ _ r h => by simp [tabardlaw4_ArithSums.j0] at h, fun _ _ _ r h => by simp [tabardlaw4_ArithSums.l0] at h⟩
 | k + 1 => by
  obtain ⟨ih0, ih1⟩ := tabardlaw4_ArithSums.mono_l k
  refine ⟨?_, ?_⟩
  ·
   intro y0 y1 y2
   unfold tabardlaw4_ArithSums.j0
   repeat' first
   | (with_reducible exact ih0 _ _ _)
   | (with_reducible exact ih1 _ _ _)
   | (with_reducible exact arith_Add.mono _ _ _)
   | (with_reducible exact arith_Sum.mono _ _)
   | (with_reducible exact tabardlaw4_shown.mono _)
   | (with_reducible exact tabardref4_Sum.mono _ _)
   | (with_reducible exact LeO.refl _)
   | (with_reducible exact LeO.none _)
   | (with_reducible refine LeO.ite ?_ ?_)
   | (with_reducible refine LeO.bind ?_ (fun _ => ?_))
   | exact ih0 _ _ _
   | exact ih1 _ _ _
   | exact arith_Add.mono _ _ _
   | exact arith_Sum.mono _ _
   | exact tabardlaw4_shown.mono _
   | exact tabardref4_Sum.mono _ _
   | exact LeO.none _
   | refine LeO.ite ?_ ?_
   | refine LeO.bind ?_ (fun _ => ?_)
  ·
   intro y0 y1 y2
   unfold tabardlaw4_ArithSums.l0
   repeat' first
   | (with_reducible exact ih0 _ _ _)
   | (with_reducible exact ih1 _ _ _)
   | (with_reducible exact arith_Add.mono _ _ _)
   | (with_reducible exact arith_Sum.mono _ _)
   | (with_reducible exact tabardlaw4_shown.mono _)
   | (with_reducible exact tabardref4_Sum.mono _ _)
   | (with_reducible exact LeO.refl _)
   | (with_reducible exact LeO.none _)
   | (with_reducible refine LeO.ite ?_ ?_)
   | (with_reducible refine LeO.bind ?_ (fun _ => ?_))
   | exact ih0 _ _ _
   | exact ih1 _ _ _
   | exact arith_Add.mono _ _ _
   | exact arith_Sum.mono _ _
   | exact tabardlaw4_shown.mono _
   | exact tabardref4_Sum.mono _ _
   | exact LeO.none _
   | refine LeO.ite ?_ ?_
   | refine LeO.bind ?_ (fun _ => ?_)
theorem tabardlaw4_ArithSums.mono : ∀ a0 k, LeO (tabardlaw4_ArithSums.f k a0) (tabardlaw4_ArithSums.f (k + 1) a0) := by
 intro a0 k
 obtain ⟨ih0, ih1⟩ := tabardlaw4_ArithSums.mono_l k
 unfold tabardlaw4_ArithSums.f
 repeat' first
   | (with_reducible exact ih0 _ _ _)
   | (with_reducible exact ih1 _ _ _)
   | (with_reducible exact arith_Add.mono _ _ _)
   | (with_reducible exact arith_Sum.mono _ _)
   | (with_reducible exact tabardlaw4_shown.mono _)
   | (with_reducible exact tabardref4_Sum.mono _ _)
   | (with_reducible exact LeO.refl _)
   | (with_reducible exact LeO.none _)
   | (with_reducible refine LeO.ite ?_ ?_)
   | (with_reducible refine LeO.bind ?_ (fun _ => ?_))
   | exact ih0 _ _ _
   | exact ih1 _ _ _
   | exact arith_Add.mono _ _ _
   | exact arith_Sum.mono _ _
   | exact tabardlaw4_shown.mono _
   | exact tabardref4_Sum.mono _ _
   | exact LeO.none _
   | refine LeO.ite ?_ ?_
   | refine LeO.bind ?_ (fun _ => ?_)
set_option maxHeartbeats 8000000 in
set_option maxRecDepth 100000 in
theorem tabardlaw4_ArithSums.calls (k : Nat) (A0 : Option Addr) (c0 : Nat) (l0 : List Int) (r : Bool) (w : World) (hr0 : Kd.C (Kd.int .u64) w A0 l0.length l0) (hc0 : l0.length ≤ c0) (h : tabardlaw4_ArithSums.f k l0 = some r) :
  Calls Try.prog 16 #[.slice A0 l0.length c0] w fun e w' => e = .returned (.bool r) ∧ Below w.heap.size w w' := by
 have HR0 := zA hr0
 have HC0 := zA hc0
 clear hr0 hc0
 have HB := zA (Below.refl w.heap.size w)
 have H : ((tabardlaw4_shown.f k).bind fun t944 => (if t944 = true then (tabardlaw4_ArithSums.j0 k l0 t944 (decide ((l0.length : Int) > 200))) else (tabardlaw4_ArithSums.j0 k l0 t944 true))) = some r := h
 clear h
 replace H := Option.bind_eq_some_iff.mp H
 obtain ⟨t944, A20, H⟩ := H
 replace H : (if t944 = true then (tabardlaw4_ArithSums.j0 k l0 t944 (decide ((l0.length : Int) > 200))) else (tabardlaw4_ArithSums.j0 k l0 t944 true)) = some r := H
 have A2 := zA A20
 clear A20
 have HC3 := zA H
 clear H
 go_enter Try.func16, Try.ntmps16
 go_upto_region 2 with (first | ((with_reducible refine zoq (f := 63) rfl ?_); refine goesL_ (some 6) rfl rfl Try.func63 (by kernel_rfl) rfl #[] rfl (by (try simp only [List.map_toArray, List.map_cons, List.map_nil]); first | done | rfl | (simp only [List.length_drop, List.length_take]; rfl)) ?_; (with_reducible refine (tabardlaw4_shown.calls k  t944 _ A2.out).mono ?_); rintro e w4 ⟨rfl, hb⟩; refine ⟨_, rfl, ?_⟩; have n0_ := zA (zeq (by repeat (first | (with_reducible first | exact HB.out | apply zaq | apply zbq | apply zcq) | exact HB.out)) hb); clear HB; have HB := n0_; clear n0_; (try clear hb); (try clear hb2); (try clear hk); (try clear hi)))
 (try simp only [Act.put, List.setIfInBounds_toArray, List.set_cons_zero, List.set_cons_succ])
 go_cut [13] (fun v13 wc => ∃ (kq : Nat) (x13_2 : Bool), v13 = .bool x13_2 ∧ Aside0 (tabardlaw4_ArithSums.j0 kq l0 t944 x13_2 = some r) ∧ Aside0 (kq ≤ k) ∧ Aside0 (Below w.heap.size w wc))
 case first =>
  have H := HC3.out
  clear HC3
  by_cases c5 : t944 = true
  ·
   subst c5
   have H1 : (tabardlaw4_ArithSums.j0 k l0 true (decide ((l0.length : Int) > 200))) = some r := by rw [if_pos rfl] at H; exact H
   clear H
   have H := H1
   clear H1
   have H' := zA H
   clear H
   go_wp2
   go_meet
   case rel => exact ⟨_, (decide ((l0.length : Int) > 200)), (by first | rfl | (simp; done) | (simp [*]; done)), H', ⟨by first | omega | exact Nat.le_refl _⟩, ⟨by repeat (first | (with_reducible first | exact HB.out | apply zaq | apply zbq | apply zcq) | exact HB.out)⟩⟩
  ·
   replace c5 := Bool.eq_false_iff.mpr c5
   subst c5
   have H1 : (tabardlaw4_ArithSums.j0 k l0 false true) = some r := by rw [if_neg (show ¬ (false = true) by decide)] at H; exact H
   clear H
   have H := H1
   clear H1
   have H' := zA H
   clear H
   go_wp2
   go_meet
   case rel => exact ⟨_, (true), (by first | rfl | (simp; done) | (simp [*]; done)), H', ⟨by first | omega | exact Nat.le_refl _⟩, ⟨by repeat (first | (with_reducible first | exact HB.out | apply zaq | apply zbq | apply zcq) | exact HB.out)⟩⟩
 case rest =>
  clear HC3
  try clear c1
  try clear p2
  try clear c5
  obtain ⟨kq, x13_2, rfl, HA, HJ2, HB⟩ := hcut
  cases kq with
  | zero => exact absurd HA.out (by simp [tabardlaw4_ArithSums.j0])
  | succ kj2 =>
   have H := HA.out
   clear HA
   simp only [tabardlaw4_ArithSums.j0] at H
   by_cases c6 : x13_2 = true
   ·
    subst c6
    have H1 : (some t944) = some r := by rw [if_pos rfl] at H; exact H
    clear H
    have H := H1
    clear H1
    obtain rfl := Option.some.inj H
    go_wp2
    go_ret
    exact ⟨by first | rfl | (simp [errW_none, errW_some] <;> rfl) | (simp [*, errW_none, errW_some] <;> rfl), by repeat (first | (with_reducible first | exact HB.out | apply zaq | apply zbq | apply zcq) | exact HB.out)⟩
   ·
    replace c6 := Bool.eq_false_iff.mpr c6
    subst c6
    have H1 : (tabardlaw4_ArithSums.l0 kj2 l0 0 0) = some r := by rw [if_neg (show ¬ (false = true) by decide)] at H; exact H
    clear H
    have H := H1
    clear H1
    have H' := zA H
    clear H
    go_wp2
    go_loopg [4, 5] kj2 (fun kq v4 v5 w' => ∃ (x4_2 : Int) (x5_2 : Int), v4 = .int .u64 x4_2 ∧ v5 = .int .i64 x5_2 ∧ Aside0 (tabardlaw4_ArithSums.l0 kq l0 x4_2 x5_2 = some r) ∧ Aside0 (kq ≤ kj2) ∧ Aside0 (Below w.heap.size w w'))
    case atStart => exact ⟨(0), (0), (by first | rfl | (simp; done) | (simp [*]; done)), (by first | rfl | (simp; done) | (simp [*]; done)), H', ⟨Nat.le_refl _⟩, ⟨by repeat (first | (with_reducible first | exact HB.out | apply zaq | apply zbq | apply zcq) | exact HB.out)⟩⟩
    case round =>
     clear H'
     try clear c1
     try clear p2
     try clear c5
     try clear c6
     try clear p2
     obtain ⟨x4_2, x5_2, rfl, rfl, HA, HK2, HB⟩ := hrel
     cases gk with
     | zero => exact absurd HA.out (by simp [tabardlaw4_ArithSums.l0])
     | succ k2 =>
      have H := HA.out
      clear HA
      simp only [tabardlaw4_ArithSums.l0] at H
      by_cases c7 : x5_2 < (l0.length : Int)
      ·
       rw [if_pos c7] at H
       have c7b0 : decide (x5_2 < (l0.length : Int)) = true := decide_eq_true c7
       clear c7
       by_cases c8 : 0 ≤ x5_2
       ·
        rw [if_pos c8] at H
        have c8b0 : decide (0 ≤ x5_2) = true := decide_eq_true c8
        clear c8
        replace H := Option.bind_eq_some_iff.mp H
        obtain ⟨t946, A90, H⟩ := H
        replace H : (tabardlaw4_ArithSums.l0 k2 l0 t946 (wrap64 (x5_2 + 1))) = some r := H
        have A9 := zA A90
        clear A90
        have H' := zA H
        clear H
        have p945 : 0 ≤ (x5_2 : Int) := of_decide_eq_true (by first | (with_reducible assumption) | assumption)
        have q945 : x5_2 < (l0.length : Int) := of_decide_eq_true (by first | (with_reducible assumption) | assumption)
        obtain ⟨ad945, e945, hx945_0⟩ := Kd.at_int HR0.out x5_2 p945 q945
        cases e945
        replace hx945_0 := (HB.out.cell (World.block_lt_of_cell? w _ hx945_0)).trans hx945_0
        replace p945 := eq_true p945
        replace q945 := eq_true q945
        go_wp2_with (first | ((with_reducible refine zoq (f := 64) rfl ?_); refine goesL_ (some 26) rfl rfl Try.func64 (by kernel_rfl) rfl #[.int .u64 x4_2, .int .u64 (rd l0 x5_2)] rfl (by (try simp only [List.map_toArray, List.map_cons, List.map_nil]); first | done | rfl | (simp only [List.length_drop, List.length_take]; rfl)) ?_; (with_reducible refine (arith_Add.calls k2 x4_2 (rd l0 x5_2) t946 _ A9.out).mono ?_); rintro e w10 ⟨rfl, hb⟩; refine ⟨_, rfl, ?_⟩; have n0_ := zA (zeq (by repeat (first | (with_reducible first | exact HB.out | apply zaq | apply zbq | apply zcq) | exact HB.out)) hb); clear HB; have HB := n0_; clear n0_; (try clear hb); (try clear hb2); (try clear hk); (try clear hi)))
        go_roundg k2
        case measure => have := HJ2.out; have := HK2.out; omega
        case rel => exact ⟨(t946), (wrap64 (x5_2 + 1)), (by first | rfl | (simp; done) | (simp [*]; done)), (by first | rfl | (simp; done) | (simp [*]; done)), H', ⟨by have := HJ2.out; have := HK2.out; omega⟩, ⟨by repeat (first | (with_reducible first | exact HB.out | apply zaq | apply zbq | apply zcq) | exact HB.out)⟩⟩
       ·
        rw [if_neg c8] at H
        exact absurd H (by simp)
      ·
       rw [if_neg c7] at H
       have c7b0 : decide (x5_2 < (l0.length : Int)) = false := decide_eq_false c7
       clear c7
       replace H := Option.bind_eq_some_iff.mp H
       obtain ⟨t947, A110, H⟩ := H
       replace H : ((tabardref4_Sum.f k2 l0).bind fun t948 => (if t947 = t948 then ((arith_Sum.f k2 l0).bind fun t949 => (some (t949 == x4_2))) else (none))) = some r := H
       have A11 := zA A110
       clear A110
       replace H := Option.bind_eq_some_iff.mp H
       obtain ⟨t948, A120, H⟩ := H
       replace H : (if t947 = t948 then ((arith_Sum.f k2 l0).bind fun t949 => (some (t949 == x4_2))) else (none)) = some r := H
       have A12 := zA A120
       clear A120
       by_cases c13 : t947 = t948
       ·
        rw [if_pos c13] at H
        have c13b0 : (t947 == t948) = true := beq_iff_eq.mpr c13
        have c13b1 : (t947 != t948) = false := bne_eq_false_iff_eq.mpr c13
        clear c13
        replace H := Option.bind_eq_some_iff.mp H
        obtain ⟨t949, A140, H⟩ := H
        replace H : (some (t949 == x4_2)) = some r := H
        have A14 := zA A140
        clear A140
        obtain rfl := Option.some.inj H
        go_wp2_with (first | ((with_reducible refine zoq (f := 70) rfl ?_); refine goesL_ (some 28) rfl rfl Try.func70 (by kernel_rfl) rfl #[.slice A0 l0.length c0] rfl (by (try simp only [List.map_toArray, List.map_cons, List.map_nil]); first | done | rfl | (simp only [List.length_drop, List.length_take]; rfl)) ?_; (with_reducible refine (arith_Sum.calls k2 _ _ l0 t947 _ ?side1 ?side2 A11.out).mono ?_); (case side1 => repeat (first | exact (Kd.C_below HR0.out HB.out) | (with_reducible refine Kd.C_alloc ?_ _) | (with_reducible refine Kd.C_drewN ?_ _) | (with_reducible refine Kd.C_drew ?_))); (case side2 => exact HC0.out); rintro e w15 ⟨rfl, hb⟩; refine ⟨_, rfl, ?_⟩; have n0_ := zA (zeq (by repeat (first | (with_reducible first | exact HB.out | apply zaq | apply zbq | apply zcq) | exact HB.out)) hb); clear HB; have HB := n0_; clear n0_; (try clear hb); (try clear hb2); (try clear hk); (try clear hi)) | ((with_reducible refine zoq (f := 71) rfl ?_); refine goesL_ (some 30) rfl rfl Try.func71 (by kernel_rfl) rfl #[.slice A0 l0.length c0] rfl (by (try simp only [List.map_toArray, List.map_cons, List.map_nil]); first | done | rfl | (simp only [List.length_drop, List.length_take]; rfl)) ?_; (with_reducible refine (tabardref4_Sum.calls k2 _ _ l0 t948 _ ?side1 ?side2 A12.out).mono ?_); (case side1 => repeat (first | exact (Kd.C_below HR0.out HB.out) | (with_reducible refine Kd.C_alloc ?_ _) | (with_reducible refine Kd.C_drewN ?_ _) | (with_reducible refine Kd.C_drew ?_))); (case side2 => exact HC0.out); rintro e w16 ⟨rfl, hb⟩; refine ⟨_, rfl, ?_⟩; have n0_ := zA (zeq (by repeat (first | (with_reducible first | exact HB.out | apply zaq | apply zbq | apply zcq) | exact HB.out)) hb); clear HB; have HB := n0_; clear n0_; (try clear hb); (try clear hb2); (try clear hk); (try clear hi)) | (go_at_call 70; (with_reducible refine (arith_Sum.calls k2 _ _ l0 t949 _ ?side1 ?side2 A14.out).mono ?_); (case side1 => repeat (first | exact (Kd.C_below HR0.out HB.out) | (with_reducible refine Kd.C_alloc ?_ _) | (with_reducible refine Kd.C_drewN ?_ _) | (with_reducible refine Kd.C_drew ?_))); (case side2 => exact HC0.out); rintro e w17 ⟨rfl, hb⟩; have n0_ := zA (zeq (by repeat (first | (with_reducible first | exact HB.out | apply zaq | apply zbq | apply zcq) | exact HB.out)) hb); clear HB; have HB := n0_; clear n0_; (try clear hb); (try clear hb2); (try clear hk); (try clear hi)))
        go_ret
        exact ⟨by first | rfl | (simp [errW_none, errW_some] <;> rfl) | (simp [*, errW_none, errW_some] <;> rfl), by repeat (first | (with_reducible first | exact HB.out | apply zaq | apply zbq | apply zcq) | exact HB.out)⟩
       ·
        rw [if_neg c13] at H
        exact absurd H (by simp)

/-- THE ONE PURE STATEMENT of tabardlaw4_ArithSums: yours. -/
def tabardlaw4_ArithSums.Pure : Prop := ∀ (l0 : List Int), l0.length ≤ maxLen → l0.length * 8 ≤ 140737488351232 → (∀ x ∈ l0, (Lit.int .u64 x).wf = true) → ∃ k, tabardlaw4_ArithSums.f k l0 = some true
theorem tabardlaw4_ArithSums.walk (P : tabardlaw4_ArithSums.Pure) (a0 : Option Addr) (len0 cap0 : Nat) (z0 : List Int) (w : World) (w0 : (a0 = none ∧ len0 = 0 ∧ cap0 = 0 ∧ z0 = []) ∨ ∃ x, a0 = some x ∧ len0 ≤ cap0 ∧ cap0 ≤ maxLen ∧ z0.length = cap0 ∧ (∀ i, i < z0.length → w.cell? (x.add i) = some (.int .u64 (z0.getD i 0))) ∧ ∀ n ∈ z0, (Lit.int .u64 n).wf = true) (y0 : len0 * 8 ≤ 140737488351232) :
  Calls Try.prog 16 #[.slice a0 len0 cap0] w fun e w' => e = .returned (.bool true) ∧ Below w.heap.size w w' := by
 obtain ⟨l0, rfl, hr0, hm0, hw0, hc0⟩ := ReadsInt.ofRowC w0
 obtain ⟨k, h⟩ := P l0 hm0 y0 hw0
 refine (tabardlaw4_ArithSums.calls k _ _ l0 true w (Kd.C_of_reads (d := (0 : Int)) (h1 := fun _ => rfl) hr0) hc0 h).mono ?_
 rintro e w' ⟨rfl, hd⟩
 exact ⟨rfl, hd⟩

end Go.Proofs.Ytbejjlecpcphoaa.P
