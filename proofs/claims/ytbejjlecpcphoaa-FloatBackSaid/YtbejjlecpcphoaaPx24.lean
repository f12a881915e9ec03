-- Written by a program of this session's (a turned print), not by hand.
import Derived.Test.YtbejjlecpcphoaaPx0
import Derived.Test.YtbejjlecpcphoaaPx23
import Derived.Laws.CopyOwn
namespace Go.Proofs.Ytbejjlecpcphoaa.P
open Go.RowKit Go.Proofs.YtbejjlecpcphoaaW.PrintWords Go.Proofs.YtbejjlecpcphoaaW.PrintLast Go.Proofs.YtbejjlecpcphoaaW.PrintMore
attribute [local go_sem] max2_int min2_int max_two min_two max_three min_three max_four min_four   -- for this text's walks alone
set_option linter.unusedVariables false
set_option linter.unusedSimpArgs false

/-! ### nat_Trim: function 80: by hand -/
-- LIB: Derived.Laws.CopyOwn
/-- Trim: a list without the noughts at its end. -/
def nat_Trim.f (k : Nat) (l0 : List Int) : Option (List Int) :=
 (nat_right.f k l0).bind fun n => if 0 ≤ n then (if n ≤ (l0.length : Int) then (if n.toNat ≤ 70368744177664 then some (l0.take n.toNat) else none) else none) else none
theorem nat_Trim.mono : ∀ a0 k, LeO (nat_Trim.f k a0) (nat_Trim.f (k + 1) a0) := by
 intro a0 k
 unfold nat_Trim.f
 exact LeO.bind (nat_right.mono _ _) (fun _ => LeO.refl _)
theorem nat_Trim.row {w : World} {base : Nat} {ok : Nat → Prop} {v : Value} {xs : List Int} (h : Kd.R (Kd.int .u32) 40 w base ok v xs) (hb : ∃ b, v.ownBlock = some b) :
  ∃ g cap cur, v = .slice (some ⟨g, 0, none⟩) xs.length cap ∧ base ≤ g ∧ w.heap[g]? = some (.cells cur 40 (0, 0)) ∧ xs.length ≤ cap ∧ cap ≤ maxLen ∧ cur.size = cap := by
 obtain ⟨_, inner, ⟨_, ho⟩, _⟩ := h
 rcases ho with ⟨rfl, _⟩ | ⟨g, cap, cur, rfl, h1, h2, h3, h4, h5, _⟩
 ·
  obtain ⟨b, hb⟩ := hb; simp [Value.ownBlock] at hb
 ·
  exact ⟨g, cap, cur, rfl, h1, h2, h3, h4, by simpa [Kd.int, Kd.scalar] using h5⟩
theorem nat_Trim.back {w : World} {base g cap : Nat} {cur : Array Value} {xs : List Int} (h1 : base ≤ g) (h2 : w.heap[g]? = some (.cells cur 40 (0, 0))) (h3 : xs.length ≤ cap) (h4 : cap ≤ maxLen) (h5 : cur.size = cap) (h6 : cur.toList.take xs.length = xs.map (Value.int .u32)) :
  Kd.R (Kd.int .u32) 40 w base (fun _ => True) (.slice (some ⟨g, 0, none⟩) xs.length cap) xs := by
 refine ⟨fun _ _ => trivial, xs.map (Value.int .u32), ⟨by simp [Kd.int, Kd.scalar], Or.inr ⟨g, cap, cur, rfl, h1, h2, h3, h4, by simpa [Kd.int, Kd.scalar] using h5, by simpa [Kd.int, Kd.scalar] using h6⟩⟩, by simp [Kd.int, Kd.scalar], fun j p hj => ?_⟩
 have hj2 : (xs.map (Value.int .u32))[j]? = some (.int .u32 p) := by rw [List.getElem?_map, hj]; rfl
 show ((xs.map (Value.int .u32)).drop (j * 1)).take 1 = [Value.int .u32 p]
 rw [Nat.mul_one]
 obtain ⟨hl, he⟩ := List.getElem?_eq_some_iff.1 hj2
 rw [List.drop_eq_getElem_cons hl, List.take_succ_cons, List.take_zero, he]
theorem nat_Trim.one {A0 : Option Addr} {cs : List Value} {W : World} {p : Prop} (hp : p) (h : ∀ (j : Nat) (v : Value), cs[j]? = some v → ∃ ad, A0 = some ad ∧ W.cell? (ad.add j) = some v) :
  0 < cs.length → p ∧ ∃ ad, A0 = some ad ∧ ∀ (j : Nat) (v : Value), cs[j]? = some v → W.cell? (ad.add j) = some v := by
 intro hl
 obtain ⟨ad, e, _⟩ := h 0 cs[0] (List.getElem?_eq_getElem hl)
 refine ⟨hp, ad, e, fun j v hj => ?_⟩
 obtain ⟨ad2, e2, h2⟩ := h j v hj
 rw [e] at e2
 injection e2 with e2
 rw [e2]; exact h2
set_option maxHeartbeats 4000000 in
set_option maxRecDepth 100000 in
theorem nat_Trim.calls (k : Nat) (A0 : Option Addr) (c0 : Nat) (l0 : List Int) (r : List Int) (w : World) (hr0 : Kd.C (Kd.int .u32) w A0 l0.length l0) (hc0 : l0.length ≤ c0) (h : nat_Trim.f k l0 = some r) :
  Calls Try.prog 80 #[.slice A0 l0.length c0] w fun e w' => ∃ v0_ : Value, e = .returned (v0_) ∧ Kd.R (Kd.int .u32) 40 w' w.heap.size (fun _ => True) v0_ r ∧ Below w.heap.size w w' := by
 unfold nat_Trim.f at h
 replace h := Option.bind_eq_some_iff.mp h
 obtain ⟨n, A0', h⟩ := h
 have AN := zA A0'
 clear A0'
 by_cases h1 : 0 ≤ n
 ·
  rw [if_pos h1] at h
  by_cases h2 : n ≤ (l0.length : Int)
  ·
   rw [if_pos h2] at h
   by_cases h3 : n.toNat ≤ 70368744177664
   ·
    rw [if_pos h3] at h
    have e := Option.some.inj h
    obtain ⟨m, rfl⟩ := Int.eq_ofNat_of_zero_le h1
    rw [Int.toNat_natCast] at e h3
    subst e
    have HR0 := zA hr0
    have HC0 := zA hc0
    have HM := zA h2
    have HM3 := zA h3
    clear hr0 hc0 h h1 h2 h3
    have HB := zA (Below.refl w.heap.size w)
    obtain ⟨cs, hcs⟩ : ∃ cs, cs = (l0.take m).map (Value.int .u32) := ⟨_, rfl⟩
    have hsz : (Try.prog.info? 40).map (·.size) = some 1 := by kernel_rfl
    have HS := zA hsz
    clear hsz
    have hcells : ∀ W : World, Below w.heap.size w W → ∀ j v, ((l0.take m).map (Value.int .u32))[j]? = some v → ∃ ad, A0 = some ad ∧ W.cell? (ad.add j) = some v := by
     intro W hb j v hj
     rw [List.getElem?_map] at hj
     obtain ⟨x, hx, rfl⟩ := Option.map_eq_some_iff.1 hj
     have hjm : j < m := by
      have := (List.getElem?_eq_some_iff.1 hx).1
      rw [List.length_take] at this; omega
     rw [List.getElem?_take_of_lt hjm] at hx
     have hjl : j < l0.length := (List.getElem?_eq_some_iff.1 hx).1
     obtain ⟨ad, e1, hc⟩ := Kd.at_int HR0.out ((j : Nat) : Int) (by omega) (by omega)
     refine ⟨ad, e1, ?_⟩
     have hrd : rd l0 ((j : Nat) : Int) = x := by
      unfold rd; rw [Int.toNat_natCast, List.getD_eq_getElem?_getD, hx]; rfl
     rw [Int.toNat_natCast, hrd] at hc
     exact (hb.cell (World.block_lt_of_cell? w _ hc)).trans hc
    have hlen : cs.length = m := by rw [hcs, List.length_map, List.length_take]; have := HM.out; omega
    rw [← hcs] at hcells
    have CS := zA hcs
    have HL := zA hlen
    have HCE := zA hcells
    clear hcells hlen hcs
    go_enter Try.func80, Try.ntmps80
    go_wp2_with (first | (go_at_call 103; (with_reducible refine (nat_right.calls k _ _ l0 (m : Int) _ ?s1 ?s2 AN.out).mono ?_); (case s1 => exact HR0.out); (case s2 => exact HC0.out); rintro e w1 ⟨rfl, ⟨nd, rfl⟩⟩) | ((with_reducible refine zpq (N := 6) rfl ?_); refine Kd.R_make (Kd.int .u32) (w0 := w) w.heap.size 40 rfl (N := 6) rfl 85 _ _ rfl (m : Int) rfl rfl Try.underlying85 (.int .u32 0) 4 info40 rfl (by decide) (by omega) 0 (ok := fun _ => True) (okp := fun _ => True) rfl (fun _ hk => hk) trivial (Int.natCast_nonneg m) (by have := HM3.out; rw [Int.toNat_natCast]; omega) (by repeat (first | (with_reducible first | exact HB.out | apply zaq | apply zbq | apply zcq) | exact HB.out)) (zfq (by repeat (first | (with_reducible first | exact HB.out | apply zaq | apply zbq | apply zcq) | exact HB.out))) ?_; intro v6 w7 ho6 hb6 hg_ hnew_; clear hg_; obtain ⟨g, cap, cur, rfl, hgw, hrow, hcap, hmax, hcur⟩ := nat_Trim.row ho6 (Exists.imp (fun _ hz => hz.1) hnew_); rw [List.length_replicate, Int.toNat_natCast] at hcap; have HRow := zA hrow; have HB7 := zA hb6; have HG := zA hgw; have HCap := zA hcap; have HMax := zA hmax; have HCur := zA hcur; clear hnew_ ho6 hrow hb6 hgw hcap hmax hcur) | ((with_reducible refine gate_builtin (b := .copy) (xs := #[.tmp 7, .tmp 8]) rfl ?_); refine wpList_copy_splice rfl (.tmp 7) (.tmp 8) 85 85 rfl 40 Try.underlying85 HS.out _ _ _ _ _ _ rfl rfl g 0 cur.toList 40 ?dR cs ?dN ?dP ?dF ?d1 w.heap.size w ?dB HG.out ?_; (case dR => simpa using HRow.out); (case dN => have h1 := HL.out; have h2 := HM.out; rw [h1]; exact (Nat.min_eq_right (by omega)).symm); (case dP => exact nat_Trim.one rfl (HCE.out _ HB7.out)); (case dF => have h1 := HL.out; have h2 := HCap.out; have h3 := HCur.out; have h4 : cur.toList.length = cur.size := Array.length_toList; omega); (case d1 => intro v hv; rw [CS.out] at hv; obtain ⟨x, _, rfl⟩ := List.mem_map.1 hv; rfl); (case dB => exact HB7.out); intro w8 hr8 hb8; have HR8 := zA hr8.out; have HB8 := zA hb8; clear hr8 hb8))
    go_ret
    refine ⟨_, rfl, ?_, HB8.out⟩
    have e : (l0.take m).length = m := by rw [List.length_take]; have := HM.out; omega
    have b := nat_Trim.back (base := w.heap.size) (cap := cap) (xs := l0.take m) HG.out HR8.out (by rw [e]; exact HCap.out) HMax.out (by have h1 := HL.out; have h2 := HCap.out; have h3 := HCur.out; rw [List.size_toArray, length_splice _ _ _ (by have h4 : cur.toList.length = cur.size := Array.length_toList; omega)]; exact Array.length_toList.trans h3) (by rw [e, List.toList_toArray, ← CS.out]; unfold splice; rw [List.take_zero, List.nil_append, List.take_append_of_le_length (by rw [HL.out]; exact Nat.le_refl _)]; exact List.take_of_length_le (by rw [HL.out]; exact Nat.le_refl _))
    rw [e] at b
    exact b
   ·
    rw [if_neg h3] at h; exact absurd h (by simp)
  ·
   rw [if_neg h2] at h; exact absurd h (by simp)
 ·
  rw [if_neg h1] at h; exact absurd h (by simp)

end Go.Proofs.Ytbejjlecpcphoaa.P
