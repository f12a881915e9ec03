-- Written by a program of this session's (a turned print), not by hand.
import Derived.Test.YtbejjlecpcphoaaPx0
import Derived.Test.YtbejjlecpcphoaaPx6
namespace Go.Proofs.Ytbejjlecpcphoaa.P
open Go.RowKit Go.Proofs.YtbejjlecpcphoaaW.PrintWords Go.Proofs.YtbejjlecpcphoaaW.PrintLast Go.Proofs.YtbejjlecpcphoaaW.PrintMore
attribute [local go_sem] max2_int min2_int max_two min_two max_three min_three max_four min_four   -- for this text's walks alone
set_option linter.unusedVariables false
set_option linter.unusedSimpArgs false

set_option maxRecDepth 100000 in
theorem fld24_0 (x y : Int) (W : World) : (Instr.field 24 (.agg #[.int .u64 x, .int .u64 y]) 0).run Try.prog W = .ok (.int .u64 x) W := by rfl
set_option maxRecDepth 100000 in
theorem fld24_1 (x y : Int) (W : World) : (Instr.field 24 (.agg #[.int .u64 x, .int .u64 y]) 1).run Try.prog W = .ok (.int .u64 y) W := by rfl
attribute [local go_sem] fld24_0 fld24_1
/-- A state of type 24 at block g of W; what its slices lead to came in by w0. -/
def IsS24 (w0 W : World) (g : Nat) (f0 : Int) (f1 : Int) : Prop := W.heap[g]? = some (.cells #[.int .u64 f0, .int .u64 f1] 24 (0, 0)) ∧ w0.heap.size ≤ g
theorem IsS24.grown {w0 W : World} {g : Nat} {f0 : Int} {f1 : Int} {W1 : World} {row : Option Nat} (h : IsS24 w0 W g f0 f1) (hw : W.grownBy W1 row) (hne : some g ≠ row) : IsS24 w0 W1 g f0 f1 := by
 obtain ⟨hb, hg⟩ := h
 exact ⟨blk_grown hb hw hne, hg⟩
theorem IsS24.own_neN {w0 W : World} {g : Nat} {f0 : Int} {f1 : Int} {α : Type} {d : Kd α} {e : Nat} {base : Nat} {ok : Nat → Prop} {v : Value} {xs : List α} (h : IsS24 w0 W g f0 f1) (ho : Kd.N d e W base ok v xs) (ht : e ≠ 24) : some g ≠ v.ownBlock := by
 obtain ⟨hb, hg⟩ := h
 exact Kd.N_ne ho hb ht
theorem IsS24.fresh {w0 W : World} {g : Nat} {f0 : Int} {f1 : Int} (h : IsS24 w0 W g f0 f1) : ∀ k, W.heap.size ≤ k → k ≠ g := by
 obtain ⟨hb, hg⟩ := h
 exact Kd.freshB hb
theorem IsS24.kept {w0 W : World} {g : Nat} {f0 : Int} {f1 : Int} {W1 : World} {S : Nat → Prop} (h : IsS24 w0 W g f0 f1) (hk : Kept W W1 S) (hne : ¬ S g) : IsS24 w0 W1 g f0 f1 := by
 obtain ⟨hb, hg⟩ := h
 exact ⟨blk_kept hb hk hne, hg⟩
theorem IsS24.below {w0 W : World} {g : Nat} {f0 : Int} {f1 : Int} {W1 : World} (h : IsS24 w0 W g f0 f1) (hw : Below W.heap.size W W1) : IsS24 w0 W1 g f0 f1 := h.grown (grown_of_below hw none) (by simp)
theorem IsS24.alloc {w0 W : World} {g : Nat} {f0 : Int} {f1 : Int} (h : IsS24 w0 W g f0 f1) (o : Obj) : IsS24 w0 (W.alloc o) g f0 f1 := h.below (zaq (Below.refl _ _) o)
theorem IsS24.drewN {w0 W : World} {g : Nat} {f0 : Int} {f1 : Int} (h : IsS24 w0 W g f0 f1) (m : Nat) : IsS24 w0 (W.drewN m) g f0 f1 := h
theorem IsS24.drew {w0 W : World} {g : Nat} {f0 : Int} {f1 : Int} (h : IsS24 w0 W g f0 f1) : IsS24 w0 W.drew g f0 f1 := h
theorem IsS24.at_ {w0 W : World} {g : Nat} {f0 : Int} {f1 : Int} {w' : World} {m : Nat} (hq : W.drewN m = w') (h : IsS24 w0 W g f0 f1) : IsS24 w0 w' g f0 f1 := by subst hq; exact IsS24.drewN h m
theorem IsS24.apart {w0 W : World} {g : Nat} {f0 : Int} {f1 : Int} {α : Type} {d : Kd α} {e : Nat} {base : Nat} {ok : Nat → Prop} {v : Value} {xs : List α} (h : IsS24 w0 W g f0 f1) (ho : d.R e W base ok v xs) (ht : ∀ q, q ∈ e :: d.E → q ≠ 24) : d.R e W base (fun k => ok k ∧ k ≠ g) v xs := by
 obtain ⟨hb, hg⟩ := h
 exact Kd.R_types ho hb ht
theorem IsS24.own_ne {w0 W : World} {g : Nat} {f0 : Int} {f1 : Int} {α : Type} {d : Kd α} {e : Nat} {base : Nat} {ok : Nat → Prop} {v : Value} {xs : List α} (h : IsS24 w0 W g f0 f1) (ho : d.R e W base ok v xs) (ht : e ≠ 24) : some g ≠ v.ownBlock := by
 obtain ⟨hb, hg⟩ := h
 exact Kd.R_ne ho hb ht
theorem IsS24.apartQ {w0 W : World} {g : Nat} {f0 : Int} {f1 : Int} {α : Type} {d : Kd α} {e : Nat} {base : Nat} {ok : Nat → Prop} {v : Value} {xs : List α} (h : IsS24 w0 W g f0 f1) (ho : d.Q e W base ok v xs) (ht : ∀ q, q ∈ e :: d.E → q ≠ 24) : d.Q e W base (fun k => ok k ∧ k ≠ g) v xs := by
 obtain ⟨hb, hg⟩ := h
 exact Kd.Q_types ho hb ht
theorem IsS24.own_neQ {w0 W : World} {g : Nat} {f0 : Int} {f1 : Int} {α : Type} {d : Kd α} {e : Nat} {base : Nat} {ok : Nat → Prop} {v : Value} {xs : List α} (h : IsS24 w0 W g f0 f1) (ho : d.Q e W base ok v xs) (ht : e ≠ 24) : some g ≠ v.ownBlock := by
 obtain ⟨hb, hg⟩ := h
 exact Kd.Q_ne ho hb ht
theorem IsS24.apartS {w0 W : World} {g : Nat} {f0 : Int} {f1 : Int} {α : Type} {d : Kd α} {e : Nat} {base : Nat} {ok : Nat → Prop} {v : Value} {xs : List α} (h : IsS24 w0 W g f0 f1) (ho : d.S e W base ok v xs) (ht : ∀ q, q ∈ e :: d.E → q ≠ 24) : d.S e W base (fun k => ok k ∧ k ≠ g) v xs := by
 obtain ⟨hb, hg⟩ := h
 exact Kd.S_types ho hb ht
theorem IsS24.own_neS {w0 W : World} {g : Nat} {f0 : Int} {f1 : Int} {α : Type} {d : Kd α} {e : Nat} {base : Nat} {ok : Nat → Prop} {v : Value} {xs : List α} (h : IsS24 w0 W g f0 f1) (ho : d.S e W base ok v xs) (ht : e ≠ 24) : some g ≠ v.ownBlock := by
 obtain ⟨hb, hg⟩ := h
 exact Kd.S_ne ho hb ht
theorem IsS24.lt {w0 W : World} {g : Nat} {f0 : Int} {f1 : Int} (h : IsS24 w0 W g f0 f1) : g < W.heap.size := by
 obtain ⟨hb, hg⟩ := h
 exact blk_lt hb
theorem IsS24.ge {w0 W : World} {g : Nat} {f0 : Int} {f1 : Int} (h : IsS24 w0 W g f0 f1) : w0.heap.size ≤ g := by
 obtain ⟨hb, hg⟩ := h
 exact hg
theorem IsS24.ne_blk {w0 W : World} {g : Nat} {f0 : Int} {f1 : Int} {a : Nat} {cs : Array Value} {t : TypeId} {fr : Nat × Nat} (h : IsS24 w0 W g f0 f1) (hb2 : W.heap[a]? = some (.cells cs t fr)) (ht : t ≠ 24) : g ≠ a := by
 obtain ⟨hb, hg⟩ := h
 rintro rfl
 rw [hb] at hb2
 injection hb2 with hb2
 injection hb2 with _ ht2
 exact ht ht2.symm
theorem IsS24.far {w0 W : World} {g : Nat} {f0 : Int} {f1 : Int} {p : Addr} (h : IsS24 w0 W g f0 f1) (hne : g ≠ p.block) (u : Value) : IsS24 w0 (W.setCell p u) g f0 f1 := by
 obtain ⟨hb, hg⟩ := h
 exact ⟨zjq hb hne u, hg⟩
theorem cellS24_0 {W : World} {g : Nat} {f0 : Int} {f1 : Int} (h : W.heap[g]? = some (.cells #[.int .u64 f0, .int .u64 f1] 24 (0, 0))) : W.cell? ⟨g, 0, none⟩ = some (.int .u64 f0) := (zmq h 0).trans rfl
theorem IsS24.set_0 {w0 W : World} {g : Nat} {f0 : Int} {f1 : Int} (h : IsS24 w0 W g f0 f1) (x : Int) : IsS24 w0 (W.setCell ⟨g, 0, none⟩ (.int .u64 x)) g x f1 := by
 obtain ⟨hb, hg⟩ := h
 exact ⟨by simpa using blk_set hb 0 (.int .u64 x), hg⟩
theorem cellS24_1 {W : World} {g : Nat} {f0 : Int} {f1 : Int} (h : W.heap[g]? = some (.cells #[.int .u64 f0, .int .u64 f1] 24 (0, 0))) : W.cell? ⟨g, 1, none⟩ = some (.int .u64 f1) := (zmq h 1).trans rfl
theorem IsS24.set_1 {w0 W : World} {g : Nat} {f0 : Int} {f1 : Int} (h : IsS24 w0 W g f0 f1) (x : Int) : IsS24 w0 (W.setCell ⟨g, 1, none⟩ (.int .u64 x)) g f0 x := by
 obtain ⟨hb, hg⟩ := h
 exact ⟨by simpa using blk_set hb 1 (.int .u64 x), hg⟩
theorem IsS24.new (w0 W : World) (f0 : Int) (f1 : Int) (hB : Below w0.heap.size w0 W) : IsS24 w0 (W.alloc (.cells #[.int .u64 f0, .int .u64 f1] 24)) W.heap.size f0 f1 := ⟨by simpa using heap_alloc_new W _, hB.size⟩

/-! ### float_Join_1: function 73 -/
def float_Join_1.f (k : Nat) (a0 : Int) (s1_0 : Int) (s1_1 : Int) : Option (Int × Bool × Bool × Int × Int) := if a0 ≤ 0 then ((wide_Shl.f s1_0 s1_1 (wrap64 (-a0))).bind fun bt121 => (some (bt121.2, false, false, s1_0, s1_1))) else ((wide_Shr.f k s1_0 s1_1 (wrap64 (a0 - 1))).bind fun bt123 => ((wide_Shl.f bt123.1 bt123.2.1 63).bind fun bt127 => (some (bt127.1, ((Go.bits .and .u64 bt123.2.1 1) == 1), bt123.2.2, s1_0, s1_1))))
theorem float_Join_1.mono : ∀ a0 a1 a2 k, LeO (float_Join_1.f k a0 a1 a2) (float_Join_1.f (k + 1) a0 a1 a2) := by
 intro a0 a1 a2 k
 unfold float_Join_1.f
 repeat' first
   | (with_reducible exact wide_Shr.mono _ _ _ _)
   | (with_reducible exact LeO.refl _)
   | (with_reducible exact LeO.none _)
   | (with_reducible refine LeO.ite ?_ ?_)
   | (with_reducible refine LeO.bind ?_ (fun _ => ?_))
   | exact wide_Shr.mono _ _ _ _
   | exact LeO.none _
   | refine LeO.ite ?_ ?_
   | refine LeO.bind ?_ (fun _ => ?_)
def float_Join_1.T4 : Bool × List (List Nat × List Nat) := (true, [([], []), ([0], [0]), ([1], [1]), ([], []), ([3], [3]), ([4], [4]), ([5], [5]), ([], []), ([2, 1, 0, 1, 2], [2]), ([6, 8, 0, 1, 2, 3, 4, 5, 6, 8], [6]), ([7, 9, 0, 1, 2, 3, 4, 5, 6, 7, 8, 9], [7])])
def float_Join_1.B4 : List Nat := [0, 1, 3, 0, 8, 24, 56, 0, 7, 383, 1023]
theorem float_Join_1.tab4 : rtab .any (opsOf Try.f73 4) = float_Join_1.T4 := by kernel_rfl
theorem float_Join_1.bits4 : waitsOk float_Join_1.T4.2 float_Join_1.B4 = true := by kernel_rfl
set_option maxHeartbeats 8000000 in
set_option maxRecDepth 100000 in
theorem float_Join_1.calls (k : Nat) (a0 : Int) (g : Nat) (s1_0 : Int) (s1_1 : Int) (r1 : Int) (r2 : Bool) (r3 : Bool) (r4 : Int) (r5 : Int) (w0 w : World) (hI : IsS24 w0 w g s1_0 s1_1) (hB : Below w0.heap.size w0 w) (h : float_Join_1.f k a0 s1_0 s1_1 = some (r1, r2, r3, r4, r5)) :
  Calls Try.prog 73 #[.int .i64 a0, .pointer (some ⟨g, 0, none⟩)] w fun e w' => e = .returned (.tuple #[.int .u64 r1, .bool r2, .bool r3]) ∧ IsS24 w0 w' g r4 r5 ∧ Below w0.heap.size w0 w' ∧ KeepBut w w' g none := by
 have hu24 := Try.underlying24
 have HI1 := zA hI
 have HK := zA (KeepBut.refl w g none)
 have HL := zA hB.size
 clear hI
 have HW0 := zA hB.size
 have HB := zA hB
 clear hB
 have H : (if a0 ≤ 0 then ((wide_Shl.f s1_0 s1_1 (wrap64 (-a0))).bind fun bt121 => (some (bt121.2, false, false, s1_0, s1_1))) else ((wide_Shr.f k s1_0 s1_1 (wrap64 (a0 - 1))).bind fun bt123 => ((wide_Shl.f bt123.1 bt123.2.1 63).bind fun bt127 => (some (bt127.1, ((Go.bits .and .u64 bt123.2.1 1) == 1), bt123.2.2, s1_0, s1_1))))) = some (r1, r2, r3, r4, r5) := h
 clear h
 by_cases c3 : a0 ≤ 0
 ·
  rw [if_pos c3] at H
  have c3b0 : decide (a0 ≤ 0) = true := decide_eq_true c3
  clear c3
  replace H := Option.bind_eq_some_iff.mp H
  obtain ⟨⟨t121, t122⟩, A40, H⟩ := H
  replace H : (some (t122, false, false, s1_0, s1_1)) = some (r1, r2, r3, r4, r5) := H
  have A4 := zA A40
  clear A40
  simp only [Option.some.injEq, Prod.mk.injEq] at H
  obtain ⟨rfl, rfl, rfl, rfl, rfl⟩ := H
  obtain ⟨HGz5, hgz5⟩ := HI1.out
  have hcz5_0 := cellS24_0 HGz5
  have hcz5_1 := cellS24_1 HGz5
  have hfz5_0 := znq HGz5 0
  have hfz5_1 := znq HGz5 1
  clear HGz5 hgz5
  go_enter Try.func73, Try.ntmps73
  go_wp2_with (first | ((with_reducible refine zoq (f := 53) rfl ?_); refine goesL_ (some 13) rfl rfl Try.func53 (by kernel_rfl) rfl #[.agg #[.int .u64 s1_0, .int .u64 s1_1], .int .i64 (wrap64 (-a0))] rfl (by (try simp only [List.map_toArray, List.map_cons, List.map_nil]); first | done | rfl | (simp only [List.length_drop, List.length_take]; rfl)) ?_; (with_reducible refine (wide_Shl.calls s1_0 s1_1 (wrap64 (-a0)) t121 t122 _ A4.out).mono ?_); rintro e w6 ⟨rfl, hb⟩; refine ⟨_, rfl, ?_⟩; have n0_ := zA (IsS24.below (by repeat (first | (with_reducible first | exact HI1.out | apply IsS24.alloc | apply IsS24.drewN | apply IsS24.drew | apply IsS24.set_0 | apply IsS24.set_1) | exact HI1.out)) hb); have n1_ := zA (KeepBut.trans (by repeat (first | (with_reducible first | exact HK.out | apply KeepBut.set_ | apply zrq | apply zsq | apply ztq) | exact HK.out)) (KeepBut.of_below hb g none) (.inl rfl)); have n2_ := zA (zeq (by repeat (first | (with_reducible first | exact HB.out | apply zaq | apply zbq | apply zcq | refine zdq ?_ (IsS24.ge HI1.out)) | exact HB.out)) hb); clear HI1; clear HK; clear HB; have HI1 := n0_; have HK := n1_; have HB := n2_; clear n0_ n1_ n2_; (try clear hb); (try clear hb2); (try clear hk); (try clear hi)))
  go_ret3
  exact ⟨by first | rfl | (simp [errW_none, errW_some] <;> rfl) | (simp [*, errW_none, errW_some] <;> rfl), by repeat (first | (with_reducible first | exact HI1.out | apply IsS24.alloc | apply IsS24.drewN | apply IsS24.drew | apply IsS24.set_0 | apply IsS24.set_1) | exact HI1.out), by repeat (first | (with_reducible first | exact HB.out | apply zaq | apply zbq | apply zcq | refine zdq ?_ (IsS24.ge HI1.out)) | exact HB.out), by repeat (first | (with_reducible first | exact HK.out | apply KeepBut.set_ | apply zrq | apply zsq | apply ztq) | exact HK.out)⟩
 ·
  rw [if_neg c3] at H
  have c3b0 : decide (a0 ≤ 0) = false := decide_eq_false c3
  clear c3
  replace H := Option.bind_eq_some_iff.mp H
  obtain ⟨⟨t123, t124, t125⟩, A70, H⟩ := H
  replace H : ((wide_Shl.f t123 t124 63).bind fun bt127 => (some (bt127.1, ((Go.bits .and .u64 t124 1) == 1), t125, s1_0, s1_1))) = some (r1, r2, r3, r4, r5) := H
  have A7 := zA A70
  clear A70
  replace H := Option.bind_eq_some_iff.mp H
  obtain ⟨⟨t127, t128⟩, A80, H⟩ := H
  replace H : (some (t127, ((Go.bits .and .u64 t124 1) == 1), t125, s1_0, s1_1)) = some (r1, r2, r3, r4, r5) := H
  have A8 := zA A80
  clear A80
  simp only [Option.some.injEq, Prod.mk.injEq] at H
  obtain ⟨rfl, rfl, rfl, rfl, rfl⟩ := H
  obtain ⟨HGz9, hgz9⟩ := HI1.out
  have hcz9_0 := cellS24_0 HGz9
  have hcz9_1 := cellS24_1 HGz9
  have hfz9_0 := znq HGz9 0
  have hfz9_1 := znq HGz9 1
  clear HGz9 hgz9
  go_enter Try.func73, Try.ntmps73
  try go_wp2_with (first | ((with_reducible refine zoq (f := 51) rfl ?_); refine goesL_ (some 19) rfl rfl Try.func51 (by kernel_rfl) rfl #[.agg #[.int .u64 s1_0, .int .u64 s1_1], .int .i64 (wrap64 (a0 - 1))] rfl (by (try simp only [List.map_toArray, List.map_cons, List.map_nil]); first | done | rfl | (simp only [List.length_drop, List.length_take]; rfl)) ?_; (with_reducible refine (wide_Shr.calls k s1_0 s1_1 (wrap64 (a0 - 1)) t123 t124 t125 _ A7.out).mono ?_); rintro e w10 ⟨rfl, hb⟩; refine ⟨_, rfl, ?_⟩; have n0_ := zA (IsS24.below (by repeat (first | (with_reducible first | exact HI1.out | apply IsS24.alloc | apply IsS24.drewN | apply IsS24.drew | apply IsS24.set_0 | apply IsS24.set_1) | exact HI1.out)) hb); have n1_ := zA (KeepBut.trans (by repeat (first | (with_reducible first | exact HK.out | apply KeepBut.set_ | apply zrq | apply zsq | apply ztq) | exact HK.out)) (KeepBut.of_below hb g none) (.inl rfl)); have n2_ := zA (zeq (by repeat (first | (with_reducible first | exact HB.out | apply zaq | apply zbq | apply zcq | refine zdq ?_ (IsS24.ge HI1.out)) | exact HB.out)) hb); clear HI1; clear HK; clear HB; have HI1 := n0_; have HK := n1_; have HB := n2_; clear n0_ n1_ n2_; (try clear hb); (try clear hb2); (try clear hk); (try clear hi)) | ((with_reducible refine zpq (N := 6) rfl ?_); refine zqq ?hg (N := 6) ?hd (cs := #[.int .u64 0, .int .u64 0]) (t := 24) ?hr ?_; (case hd => rfl); (case hg => rfl); (case hr => first | (go_simp; done) | (go_simp; rfl)); intro gb126 hg w11 hbox hb; have n0_ := zA (IsS24.below (by repeat (first | (with_reducible first | exact HI1.out | apply IsS24.alloc | apply IsS24.drewN | apply IsS24.drew | apply IsS24.set_0 | apply IsS24.set_1) | exact HI1.out)) hb); have n1_ := zA (KeepBut.trans (by repeat (first | (with_reducible first | exact HK.out | apply KeepBut.set_ | apply zrq | apply zsq | apply ztq) | exact HK.out)) (KeepBut.of_below hb g none) (.inl rfl)); have n2_ := zA (zeq (by repeat (first | (with_reducible first | exact HB.out | apply zaq | apply zbq | apply zcq | refine zdq ?_ (IsS24.ge HI1.out)) | exact HB.out)) hb); have n3_ := zA (hbox); have n4_ := zA ((by rw [hg]; exact (keep_size (w := w) (g := g) (row := none) (by repeat (first | (with_reducible first | exact HK.out | apply KeepBut.set_ | apply zrq | apply zsq | apply ztq) | exact HK.out))) : w.heap.size ≤ gb126)); have n5_ := zA ((Nat.le_trans HW0.out (by rw [hg]; exact (keep_size (w := w) (g := g) (row := none) (by repeat (first | (with_reducible first | exact HK.out | apply KeepBut.set_ | apply zrq | apply zsq | apply ztq) | exact HK.out))) : w.heap.size ≤ gb126) : w0.heap.size ≤ gb126)); have n6_ := zA ((by rw [hg]; exact Nat.ne_of_lt (IsS24.lt (show IsS24 w0 _ g s1_0 s1_1 from by repeat (first | (with_reducible first | exact HI1.out | apply IsS24.alloc | apply IsS24.drewN | apply IsS24.drew | apply IsS24.set_0 | apply IsS24.set_1) | exact HI1.out))) : g ≠ gb126)); have n7_ := zA ((by rw [hg]; exact Nat.ne_of_gt (IsS24.lt (show IsS24 w0 _ g s1_0 s1_1 from by repeat (first | (with_reducible first | exact HI1.out | apply IsS24.alloc | apply IsS24.drewN | apply IsS24.drew | apply IsS24.set_0 | apply IsS24.set_1) | exact HI1.out))) : gb126 ≠ g)); clear HI1; clear HK; clear HB; have HI1 := n0_; have HK := n1_; have HB := n2_; have BK126 := n3_; have GW126 := n4_; have GE126 := n5_; have NB1_126 := n6_; have NB126_1 := n7_; clear n0_ n1_ n2_ n3_ n4_ n5_ n6_ n7_; clear hb hbox hg; have hnb12 := NB126_1.out; have hnc12 := NB1_126.out; have hcz13_0 : w11.cell? ⟨gb126, 0, none⟩ = some (.int .u64 0) := (zmq BK126.out 0).trans rfl; have hcz13_1 : w11.cell? ⟨gb126, 1, none⟩ = some (.int .u64 0) := (zmq BK126.out 1).trans rfl; have hfz13_0 := znq BK126.out 0; have hfz13_1 := znq BK126.out 1))
  have n0_ : Aside0 (((w11.setCell ⟨gb126, 0, none⟩ (.int .u64 t123)).setCell ⟨gb126, 1, none⟩ (.int .u64 t124)).heap[gb126]? = some (.cells #[.int .u64 t123, .int .u64 t124] 24 (0, 0))) := ⟨by (with_reducible repeat (first | refine zgq ?_ _ | refine zhq ?_ | refine ziq ?_ _)); refine zkq (cs := #[.int .u64 t123, .int .u64 0]) ?_ 1 _ rfl; (with_reducible repeat (first | refine zgq ?_ _ | refine zhq ?_ | refine ziq ?_ _)); refine zkq (cs := #[.int .u64 0, .int .u64 0]) ?_ 0 _ rfl; (with_reducible repeat (first | refine zgq ?_ _ | refine zhq ?_ | refine ziq ?_ _)); exact BK126.out⟩
  have n1_ : Aside0 (IsS24 w0 ((w11.setCell ⟨gb126, 0, none⟩ (.int .u64 t123)).setCell ⟨gb126, 1, none⟩ (.int .u64 t124)) g s1_0 s1_1) := ⟨by repeat (first | (with_reducible first | exact HI1.out | apply IsS24.alloc | apply IsS24.drewN | apply IsS24.drew | apply IsS24.set_0 | apply IsS24.set_1 | refine IsS24.far ?_ NB1_126.out _) | exact HI1.out)⟩
  have n2_ : Aside0 (KeepBut w ((w11.setCell ⟨gb126, 0, none⟩ (.int .u64 t123)).setCell ⟨gb126, 1, none⟩ (.int .u64 t124)) g none) := ⟨by repeat (first | (with_reducible first | exact HK.out | apply KeepBut.set_ | apply zrq | apply zsq | apply ztq | refine keep_far ?_ GW126.out _) | exact HK.out)⟩
  have n3_ : Aside0 (Below w0.heap.size w0 ((w11.setCell ⟨gb126, 0, none⟩ (.int .u64 t123)).setCell ⟨gb126, 1, none⟩ (.int .u64 t124))) := ⟨by repeat (first | (with_reducible first | exact HB.out | apply zaq | apply zbq | apply zcq | refine zdq ?_ (IsS24.ge HI1.out) | refine zdq ?_ GE126.out) | exact HB.out)⟩
  (try clear BK126)
  (try clear HI1)
  (try clear HK)
  (try clear HB)
  generalize ((w11.setCell ⟨gb126, 0, none⟩ (.int .u64 t123)).setCell ⟨gb126, 1, none⟩ (.int .u64 t124)) = w14 at n0_ n1_ n2_ n3_ ⊢
  have BK126 := n0_
  have HI1 := n1_
  have HK := n2_
  have HB := n3_
  clear n0_ n1_ n2_ n3_
  have n0_ := zA (zhq BK126.out)
  have n1_ := zA (IsS24.drew HI1.out)
  have n2_ := zA (zsq HK.out)
  have n3_ := zA (zcq HB.out)
  clear BK126
  clear HI1
  clear HK
  clear HB
  have BK126 := n0_
  have HI1 := n1_
  have HK := n2_
  have HB := n3_
  clear n0_ n1_ n2_ n3_
  refine start_ (n := 11) (S := fun w' => w'.cell? ⟨gb126, 0, none⟩ = some (.int .u64 t123) ∧ w'.cell? ⟨gb126, 1, none⟩ = some (.int .u64 t124)) (ds := []) #[false, false, false, false, false, false, false, false, false, false, false] (by kernel_rfl) rfl rfl ⟨(zmq BK126.out 0).trans rfl, (zmq BK126.out 1).trans rfl⟩ (fun hHeld => ?_); refine with_tabW float_Join_1.tab4 float_Join_1.bits4 (fun HT_ HW_ => ?_)
  generalize w14.drew = w15 at BK126 HI1 HK HB hHeld ⊢
  refine pure_ (i := 3) (N := some 25) (v := ?_) (a' := ?_) #[false, false, false, true, false, false, false, false, false, false, false] rfl rfl (any_of HT_.out (by kernel_rfl)) (fun _ _ _ h => h) (Or.inl ⟨by rfl, ?_⟩) ?_ ?_
  rotate_left
  ·
   intro w'
   go_simp
   with_reducible rfl
  rotate_left
  ·
   simp only [Act.put, List.setIfInBounds_toArray, List.set_cons_zero, List.set_cons_succ, i64_w, i32_w]
   rfl
  refine pure_ (i := 7) (N := some 29) (v := ?_) (a' := ?_) #[false, false, false, true, false, false, false, true, false, false, false] rfl rfl (any_of HT_.out (by kernel_rfl)) (fun _ _ _ h => h) (Or.inl ⟨by rfl, ?_⟩) ?_ ?_
  rotate_left
  ·
   intro w'
   go_simp
   with_reducible rfl
  rotate_left
  ·
   simp only [Act.put, List.setIfInBounds_toArray, List.set_cons_zero, List.set_cons_succ, i64_w, i32_w]
   rfl
  refine take_ (i := 0) (N := some 22) (v := ?_) (a' := ?_) #[true, false, false, true, false, false, false, true, false, false, false] rfl rfl (take_ofW HT_.out HW_.out (by kernel_rfl)) (fun _ _ _ h => h) (Or.inl ⟨by rfl, ?_⟩) hHeld ?_ ?_
  rotate_left
  ·
   rintro w' ⟨s0, s1⟩
   go_simp
   with_reducible rfl
  rotate_left
  ·
   simp only [Act.put, List.setIfInBounds_toArray, List.set_cons_zero, List.set_cons_succ, i64_w, i32_w]
   rfl
  refine take_ (i := 4) (N := some 26) (v := ?_) (a' := ?_) #[true, false, false, true, true, false, false, true, false, false, false] rfl rfl (take_ofW HT_.out HW_.out (by kernel_rfl)) (fun _ _ _ h => h) (Or.inl ⟨by rfl, ?_⟩) hHeld ?_ ?_
  rotate_left
  ·
   rintro w' ⟨s0, s1⟩
   go_simp
   with_reducible rfl
  rotate_left
  ·
   simp only [Act.put, List.setIfInBounds_toArray, List.set_cons_zero, List.set_cons_succ, i64_w, i32_w]
   rfl
  refine pure_ (i := 5) (N := some 27) (v := ?_) (a' := ?_) #[true, false, false, true, true, true, false, true, false, false, false] rfl rfl (any_of HT_.out (by kernel_rfl)) (fun _ _ _ h => h) (Or.inl ⟨by rfl, ?_⟩) ?_ ?_
  rotate_left
  ·
   intro w'
   go_simp
   with_reducible rfl
  rotate_left
  ·
   simp only [Act.put, List.setIfInBounds_toArray, List.set_cons_zero, List.set_cons_succ, i64_w, i32_w]
   rfl
  refine pure_ (i := 6) (N := some 28) (v := ?_) (a' := ?_) #[true, false, false, true, true, true, true, true, false, false, false] rfl rfl (any_of HT_.out (by kernel_rfl)) (fun _ _ _ h => h) (Or.inl ⟨by rfl, ?_⟩) ?_ ?_
  rotate_left
  ·
   intro w'
   go_simp
   with_reducible rfl
  rotate_left
  ·
   simp only [Act.put, List.setIfInBounds_toArray, List.set_cons_zero, List.set_cons_succ, i64_w, i32_w]
   rfl
  refine one_ (i := 1) (N := some 23) #[true, true, false, true, true, true, true, true, false, false, false] rfl rfl (one_of HT_.out (by kernel_rfl)) (by decide) (fun K hK => ?_)
  refine goes_ Try.func53 (by kernel_rfl) rfl #[.agg #[.int .u64 t123, .int .u64 t124], .int .i64 63] (by rfl) rfl rfl (by (try simp only [List.map_toArray, List.map_cons, List.map_nil]); first | done | rfl | (simp only [List.length_drop, List.length_take]; rfl)) ?_
  with_reducible refine (wide_Shl.calls t123 t124 63 t127 t128 _ A8.out).mono ?_
  rintro e w16 ⟨rfl, hb⟩
  refine ⟨_, rfl, ?_⟩
  have n0_ := zA (IsS24.below (by repeat (first | (with_reducible first | exact HI1.out | apply IsS24.alloc | apply IsS24.drewN | apply IsS24.drew | apply IsS24.set_0 | apply IsS24.set_1 | refine IsS24.far ?_ NB1_126.out _) | exact HI1.out)) hb)
  have n1_ := zA (zlq (g := gb126) (o := .cells #[.int .u64 t123, .int .u64 t124] 24 (0, 0)) (by (with_reducible repeat (first | refine zgq ?_ _ | refine zhq ?_ | refine ziq ?_ _)); exact BK126.out) hb)
  have n2_ := zA (KeepBut.trans (by repeat (first | (with_reducible first | exact HK.out | apply KeepBut.set_ | apply zrq | apply zsq | apply ztq | refine keep_far ?_ GW126.out _) | exact HK.out)) (KeepBut.of_below hb g none) (.inl rfl))
  have n3_ := zA (zeq (by repeat (first | (with_reducible first | exact HB.out | apply zaq | apply zbq | apply zcq | refine zdq ?_ (IsS24.ge HI1.out) | refine zdq ?_ GE126.out) | exact HB.out)) hb)
  clear HI1
  clear BK126
  clear HK
  clear HB
  have HI1 := n0_
  have BK126 := n1_
  have HK := n2_
  have HB := n3_
  clear n0_ n1_ n2_ n3_
  (try clear hb)
  (try clear hb2)
  (try clear hk)
  (try clear hi)
  refine hK.out _ _ ⟨(zmq BK126.out 0).trans rfl, (zmq BK126.out 1).trans rfl⟩ (fun hHeld => ?_)
  clear hK K
  refine norm_ (a' := ?_) ?_ ?_
  rotate_left
  ·
   show Act.put _ (some 23) _ = _
   simp only [Act.put, List.setIfInBounds_toArray, List.set_cons_zero, List.set_cons_succ, i64_w, i32_w]
   rfl
  refine pure_ (i := 2) (N := some 24) (v := ?_) (a' := ?_) #[true, true, true, true, true, true, true, true, false, false, false] rfl rfl (any_of HT_.out (by kernel_rfl)) (fun _ _ _ h => h) (Or.inl ⟨by rfl, ?_⟩) ?_ ?_
  rotate_left
  ·
   intro w'
   go_simp
   with_reducible rfl
  rotate_left
  ·
   simp only [Act.put, List.setIfInBounds_toArray, List.set_cons_zero, List.set_cons_succ, i64_w, i32_w]
   rfl
  refine pure_ (i := 8) (N := some 3) (v := ?_) (a' := ?_) #[true, true, true, true, true, true, true, true, true, false, false] rfl rfl (any_of HT_.out (by kernel_rfl)) (fun _ _ _ h => h) (Or.inl ⟨by rfl, ?_⟩) ?_ ?_
  rotate_left
  ·
   intro w'
   go_simp
   with_reducible rfl
  rotate_left
  ·
   simp only [Act.put, List.setIfInBounds_toArray, List.set_cons_zero, List.set_cons_succ, i64_w, i32_w]
   rfl
  refine pure_ (i := 9) (N := some 4) (v := ?_) (a' := ?_) #[true, true, true, true, true, true, true, true, true, true, false] rfl rfl (any_of HT_.out (by kernel_rfl)) (fun _ _ _ h => h) (Or.inl ⟨by rfl, ?_⟩) ?_ ?_
  rotate_left
  ·
   intro w'
   go_simp
   with_reducible rfl
  rotate_left
  ·
   simp only [Act.put, List.setIfInBounds_toArray, List.set_cons_zero, List.set_cons_succ, i64_w, i32_w]
   rfl
  refine pure_ (i := 10) (N := some 5) (v := ?_) (a' := ?_) #[true, true, true, true, true, true, true, true, true, true, true] rfl rfl (any_of HT_.out (by kernel_rfl)) (fun _ _ _ h => h) (Or.inl ⟨by rfl, ?_⟩) ?_ ?_
  rotate_left
  ·
   intro w'
   go_simp
   with_reducible rfl
  rotate_left
  ·
   simp only [Act.put, List.setIfInBounds_toArray, List.set_cons_zero, List.set_cons_succ, i64_w, i32_w]
   rfl
  refine done_ (done_of HT_.out (by kernel_rfl)) ?_
  try go_wp2
  go_ret3
  exact ⟨by first | rfl | (simp [errW_none, errW_some] <;> rfl) | (simp [*, errW_none, errW_some] <;> rfl), by repeat (first | (with_reducible first | exact HI1.out | apply IsS24.alloc | apply IsS24.drewN | apply IsS24.drew | apply IsS24.set_0 | apply IsS24.set_1 | refine IsS24.far ?_ NB1_126.out _) | exact HI1.out), by repeat (first | (with_reducible first | exact HB.out | apply zaq | apply zbq | apply zcq | refine zdq ?_ (IsS24.ge HI1.out) | refine zdq ?_ GE126.out) | exact HB.out), by repeat (first | (with_reducible first | exact HK.out | apply KeepBut.set_ | apply zrq | apply zsq | apply ztq | refine keep_far ?_ GW126.out _) | exact HK.out)⟩

end Go.Proofs.Ytbejjlecpcphoaa.P
