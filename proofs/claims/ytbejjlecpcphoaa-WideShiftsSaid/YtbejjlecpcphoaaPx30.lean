-- Written by a program of this session's (a turned print), not by hand.
import Derived.Test.YtbejjlecpcphoaaPx0
import Derived.Test.YtbejjlecpcphoaaPx1
import Derived.Test.YtbejjlecpcphoaaPx18
import Derived.Test.YtbejjlecpcphoaaPx28
import Derived.Test.YtbejjlecpcphoaaPx29
namespace Go.Proofs.Ytbejjlecpcphoaa.P
open Go.RowKit Go.Proofs.YtbejjlecpcphoaaW.PrintWords Go.Proofs.YtbejjlecpcphoaaW.PrintLast Go.Proofs.YtbejjlecpcphoaaW.PrintMore
attribute [local go_sem] max2_int min2_int max_two min_two max_three min_three max_four min_four   -- for this text's walks alone
set_option linter.unusedVariables false
set_option linter.unusedSimpArgs false

attribute [local go_sem high] eqA24
/-! ### wide_Div: function 55 -/
def wide_Div.f (k : Nat) (a0_0 : Int) (a0_1 : Int) (a1 : Int) : Option (Int × Int × Int × Int) := if a1 = 0 then (some (0, 0, 0, 10)) else ((bits_Div64.f k (Int.tmod a0_0 a1) a0_1 a1).bind fun bt353 => (some (IntKind.u64.wrap (Int.tdiv a0_0 a1), bt353.1, bt353.2, 0)))
theorem wide_Div.mono : ∀ a0 a1 a2 k, LeO (wide_Div.f k a0 a1 a2) (wide_Div.f (k + 1) a0 a1 a2) := by
 intro a0 a1 a2 k
 unfold wide_Div.f
 repeat' first
   | (with_reducible exact bits_Div64.mono _ _ _ _)
   | (with_reducible exact LeO.refl _)
   | (with_reducible exact LeO.none _)
   | (with_reducible refine LeO.ite ?_ ?_)
   | (with_reducible refine LeO.bind ?_ (fun _ => ?_))
   | exact bits_Div64.mono _ _ _ _
   | exact LeO.none _
   | refine LeO.ite ?_ ?_
   | refine LeO.bind ?_ (fun _ => ?_)
set_option maxHeartbeats 8000000 in
set_option maxRecDepth 100000 in
theorem wide_Div.calls (k : Nat) (a0_0 : Int) (a0_1 : Int) (a1 : Int) (r1 : Int) (r2 : Int) (r3 : Int) (r4 : Int) (w : World) (h : wide_Div.f k a0_0 a0_1 a1 = some (r1, r2, r3, r4)) :
  Calls Try.prog 55 #[.agg #[.int .u64 a0_0, .int .u64 a0_1], .int .u64 a1] w fun e w' => e = .returned (.tuple #[.agg #[.int .u64 r1, .int .u64 r2], .int .u64 r3, .int .i64 r4]) ∧ Below w.heap.size w w' := by
 have hu24 := Try.underlying24
 have HB := zA (Below.refl w.heap.size w)
 have H : (if a1 = 0 then (some (0, 0, 0, 10)) else ((bits_Div64.f k (Int.tmod a0_0 a1) a0_1 a1).bind fun bt353 => (some (IntKind.u64.wrap (Int.tdiv a0_0 a1), bt353.1, bt353.2, 0)))) = some (r1, r2, r3, r4) := h
 clear h
 by_cases c3 : a1 = 0
 ·
  rw [if_pos c3] at H
  have c3b0 : (a1 == 0) = true := beq_iff_eq.mpr c3
  have c3b1 : (a1 != 0) = false := bne_eq_false_iff_eq.mpr c3
  clear c3
  simp only [Option.some.injEq, Prod.mk.injEq] at H
  obtain ⟨rfl, rfl, rfl, rfl⟩ := H
  go_enter Try.func55, Try.ntmps55
  go_wp2_with (first | ((with_reducible refine zpq (N := 2) rfl ?_); refine zqq ?hg (N := 2) ?hd (cs := #[.int .u64 a0_0, .int .u64 a0_1]) (t := 24) ?hr ?_; (case hd => rfl); (case hg => rfl); (case hr => first | (go_simp; done) | (go_simp; rfl)); intro gb351 hg w4 hbox hb; have n0_ := zA (zeq (by repeat (first | (with_reducible first | exact HB.out | apply zaq | apply zbq | apply zcq) | exact HB.out)) hb); have n1_ := zA (hbox); have n2_ := zA ((by rw [hg]; exact (zfq (by repeat (first | (with_reducible first | exact HB.out | apply zaq | apply zbq | apply zcq) | exact HB.out))) : w.heap.size ≤ gb351)); have n3_ := zA ((by rw [hg]; exact (zfq (by repeat (first | (with_reducible first | exact HB.out | apply zaq | apply zbq | apply zcq) | exact HB.out))) : w.heap.size ≤ gb351)); clear HB; have HB := n0_; have BK351 := n1_; have GW351 := n2_; have GE351 := n3_; clear n0_ n1_ n2_ n3_; clear hb hbox hg) | ((with_reducible refine zpq (N := 4) rfl ?_); refine zqq ?hg (N := 4) ?hd (cs := #[.int .u64 0, .int .u64 0]) (t := 24) ?hr ?_; (case hd => rfl); (case hg => rfl); (case hr => first | (go_simp; done) | (go_simp; rfl)); intro gb352 hg w5 hbox hb; have n0_ := zA (zeq (by repeat (first | (with_reducible first | exact HB.out | apply zaq | apply zbq | apply zcq) | exact HB.out)) hb); have n1_ := zA (hbox); have n2_ := zA ((by rw [hg]; exact (zfq (by repeat (first | (with_reducible first | exact HB.out | apply zaq | apply zbq | apply zcq) | exact HB.out))) : w.heap.size ≤ gb352)); have n3_ := zA ((by rw [hg]; exact (zfq (by repeat (first | (with_reducible first | exact HB.out | apply zaq | apply zbq | apply zcq) | exact HB.out))) : w.heap.size ≤ gb352)); clear HB; have HB := n0_; have BK352 := n1_; have GW352 := n2_; have GE352 := n3_; clear n0_ n1_ n2_ n3_; clear hb hbox hg; have hcz6_0 : w5.cell? ⟨gb352, 0, none⟩ = some (.int .u64 0) := (zmq BK352.out 0).trans rfl; have hcz6_1 : w5.cell? ⟨gb352, 1, none⟩ = some (.int .u64 0) := (zmq BK352.out 1).trans rfl; have hfz6_0 := znq BK352.out 0; have hfz6_1 := znq BK352.out 1))
  repeat (go_quiet (first | ((with_reducible refine zpq (N := 2) rfl ?_); refine zqq ?hg (N := 2) ?hd (cs := #[.int .u64 a0_0, .int .u64 a0_1]) (t := 24) ?hr ?_; (case hd => rfl); (case hg => rfl); (case hr => first | (go_simp; done) | (go_simp; rfl)); intro gb351 hg w4 hbox hb; have n0_ := zA (zeq (by repeat (first | (with_reducible first | exact HB.out | apply zaq | apply zbq | apply zcq) | exact HB.out)) hb); have n1_ := zA (hbox); have n2_ := zA ((by rw [hg]; exact (zfq (by repeat (first | (with_reducible first | exact HB.out | apply zaq | apply zbq | apply zcq) | exact HB.out))) : w.heap.size ≤ gb351)); have n3_ := zA ((by rw [hg]; exact (zfq (by repeat (first | (with_reducible first | exact HB.out | apply zaq | apply zbq | apply zcq) | exact HB.out))) : w.heap.size ≤ gb351)); clear HB; have HB := n0_; have BK351 := n1_; have GW351 := n2_; have GE351 := n3_; clear n0_ n1_ n2_ n3_; clear hb hbox hg) | ((with_reducible refine zpq (N := 4) rfl ?_); refine zqq ?hg (N := 4) ?hd (cs := #[.int .u64 0, .int .u64 0]) (t := 24) ?hr ?_; (case hd => rfl); (case hg => rfl); (case hr => first | (go_simp; done) | (go_simp; rfl)); intro gb352 hg w5 hbox hb; have n0_ := zA (zeq (by repeat (first | (with_reducible first | exact HB.out | apply zaq | apply zbq | apply zcq) | exact HB.out)) hb); have n1_ := zA (hbox); have n2_ := zA ((by rw [hg]; exact (zfq (by repeat (first | (with_reducible first | exact HB.out | apply zaq | apply zbq | apply zcq) | exact HB.out))) : w.heap.size ≤ gb352)); have n3_ := zA ((by rw [hg]; exact (zfq (by repeat (first | (with_reducible first | exact HB.out | apply zaq | apply zbq | apply zcq) | exact HB.out))) : w.heap.size ≤ gb352)); clear HB; have HB := n0_; have BK352 := n1_; have GW352 := n2_; have GE352 := n3_; clear n0_ n1_ n2_ n3_; clear hb hbox hg; have hcz6_0 : w5.cell? ⟨gb352, 0, none⟩ = some (.int .u64 0) := (zmq BK352.out 0).trans rfl; have hcz6_1 : w5.cell? ⟨gb352, 1, none⟩ = some (.int .u64 0) := (zmq BK352.out 1).trans rfl; have hfz6_0 := znq BK352.out 0; have hfz6_1 := znq BK352.out 1)); try go_wp2_with (first | ((with_reducible refine zpq (N := 2) rfl ?_); refine zqq ?hg (N := 2) ?hd (cs := #[.int .u64 a0_0, .int .u64 a0_1]) (t := 24) ?hr ?_; (case hd => rfl); (case hg => rfl); (case hr => first | (go_simp; done) | (go_simp; rfl)); intro gb351 hg w4 hbox hb; have n0_ := zA (zeq (by repeat (first | (with_reducible first | exact HB.out | apply zaq | apply zbq | apply zcq) | exact HB.out)) hb); have n1_ := zA (hbox); have n2_ := zA ((by rw [hg]; exact (zfq (by repeat (first | (with_reducible first | exact HB.out | apply zaq | apply zbq | apply zcq) | exact HB.out))) : w.heap.size ≤ gb351)); have n3_ := zA ((by rw [hg]; exact (zfq (by repeat (first | (with_reducible first | exact HB.out | apply zaq | apply zbq | apply zcq) | exact HB.out))) : w.heap.size ≤ gb351)); clear HB; have HB := n0_; have BK351 := n1_; have GW351 := n2_; have GE351 := n3_; clear n0_ n1_ n2_ n3_; clear hb hbox hg) | ((with_reducible refine zpq (N := 4) rfl ?_); refine zqq ?hg (N := 4) ?hd (cs := #[.int .u64 0, .int .u64 0]) (t := 24) ?hr ?_; (case hd => rfl); (case hg => rfl); (case hr => first | (go_simp; done) | (go_simp; rfl)); intro gb352 hg w5 hbox hb; have n0_ := zA (zeq (by repeat (first | (with_reducible first | exact HB.out | apply zaq | apply zbq | apply zcq) | exact HB.out)) hb); have n1_ := zA (hbox); have n2_ := zA ((by rw [hg]; exact (zfq (by repeat (first | (with_reducible first | exact HB.out | apply zaq | apply zbq | apply zcq) | exact HB.out))) : w.heap.size ≤ gb352)); have n3_ := zA ((by rw [hg]; exact (zfq (by repeat (first | (with_reducible first | exact HB.out | apply zaq | apply zbq | apply zcq) | exact HB.out))) : w.heap.size ≤ gb352)); clear HB; have HB := n0_; have BK352 := n1_; have GW352 := n2_; have GE352 := n3_; clear n0_ n1_ n2_ n3_; clear hb hbox hg; have hcz6_0 : w5.cell? ⟨gb352, 0, none⟩ = some (.int .u64 0) := (zmq BK352.out 0).trans rfl; have hcz6_1 : w5.cell? ⟨gb352, 1, none⟩ = some (.int .u64 0) := (zmq BK352.out 1).trans rfl; have hfz6_0 := znq BK352.out 0; have hfz6_1 := znq BK352.out 1)))
  refine bodyPost_ret (results_ctt rfl _ _ gb352 24 #[.int .u64 0, .int .u64 0] (0, 0) _ rfl (by (with_reducible repeat (first | refine zgq ?_ _ | refine zhq ?_ | refine ziq ?_ _)); refine zkq (cs := #[.int .u64 0, .int .u64 0]) ?_ 1 _ rfl; (with_reducible repeat (first | refine zgq ?_ _ | refine zhq ?_ | refine ziq ?_ _)); refine zkq (cs := #[.int .u64 0, .int .u64 0]) ?_ 0 _ rfl; (with_reducible repeat (first | refine zgq ?_ _ | refine zhq ?_ | refine ziq ?_ _)); exact BK352.out) Try.underlying24 rfl (by kernel_rfl)) rfl ?_
  exact ⟨by first | rfl | (simp [errW_none, errW_some] <;> rfl) | (simp [*, errW_none, errW_some] <;> rfl), by repeat (first | (with_reducible first | exact HB.out | apply zaq | apply zbq | apply zcq | refine zdq ?_ GE352.out) | exact HB.out)⟩
 ·
  rw [if_neg c3] at H
  have c3b0 : (a1 == 0) = false := beq_eq_false_iff_ne.mpr c3
  have c3b1 : (a1 != 0) = true := bne_iff_ne.mpr c3
  replace H := Option.bind_eq_some_iff.mp H
  obtain ⟨⟨t353, t354⟩, A70, H⟩ := H
  replace H : (some (IntKind.u64.wrap (Int.tdiv a0_0 a1), t353, t354, 0)) = some (r1, r2, r3, r4) := H
  have A7 := zA A70
  clear A70
  simp only [Option.some.injEq, Prod.mk.injEq] at H
  obtain ⟨rfl, rfl, rfl, rfl⟩ := H
  go_enter Try.func55, Try.ntmps55
  go_wp2_with (first | ((with_reducible refine zpq (N := 2) rfl ?_); refine zqq ?hg (N := 2) ?hd (cs := #[.int .u64 a0_0, .int .u64 a0_1]) (t := 24) ?hr ?_; (case hd => rfl); (case hg => rfl); (case hr => first | (go_simp; done) | (go_simp; rfl)); intro gb351 hg w8 hbox hb; have n0_ := zA (zeq (by repeat (first | (with_reducible first | exact HB.out | apply zaq | apply zbq | apply zcq) | exact HB.out)) hb); have n1_ := zA (hbox); have n2_ := zA ((by rw [hg]; exact (zfq (by repeat (first | (with_reducible first | exact HB.out | apply zaq | apply zbq | apply zcq) | exact HB.out))) : w.heap.size ≤ gb351)); have n3_ := zA ((by rw [hg]; exact (zfq (by repeat (first | (with_reducible first | exact HB.out | apply zaq | apply zbq | apply zcq) | exact HB.out))) : w.heap.size ≤ gb351)); clear HB; have HB := n0_; have BK351 := n1_; have GW351 := n2_; have GE351 := n3_; clear n0_ n1_ n2_ n3_; clear hb hbox hg) | ((with_reducible refine zpq (N := 4) rfl ?_); refine zqq ?hg (N := 4) ?hd (cs := #[.int .u64 0, .int .u64 0]) (t := 24) ?hr ?_; (case hd => rfl); (case hg => rfl); (case hr => first | (go_simp; done) | (go_simp; rfl)); intro gb352 hg w9 hbox hb; have n0_ := zA (zlq (g := gb351) (o := .cells #[.int .u64 a0_0, .int .u64 a0_1] 24 (0, 0)) (by (with_reducible repeat (first | refine zgq ?_ _ | refine zhq ?_ | refine ziq ?_ _)); exact BK351.out) hb); have n1_ := zA (zeq (by repeat (first | (with_reducible first | exact HB.out | apply zaq | apply zbq | apply zcq | refine zdq ?_ GE351.out) | exact HB.out)) hb); have n2_ := zA (hbox); have n3_ := zA ((by rw [hg]; exact (zfq (by repeat (first | (with_reducible first | exact HB.out | apply zaq | apply zbq | apply zcq | refine zdq ?_ GE351.out) | exact HB.out))) : w.heap.size ≤ gb352)); have n4_ := zA ((by rw [hg]; exact (zfq (by repeat (first | (with_reducible first | exact HB.out | apply zaq | apply zbq | apply zcq | refine zdq ?_ GE351.out) | exact HB.out))) : w.heap.size ≤ gb352)); have n5_ := zA ((by rw [hg]; exact Nat.ne_of_lt (blk_lt (g := gb351) (o := .cells #[.int .u64 a0_0, .int .u64 a0_1] 24 (0, 0)) (by (with_reducible repeat (first | refine zgq ?_ _ | refine zhq ?_ | refine ziq ?_ _)); exact BK351.out)) : gb351 ≠ gb352)); have n6_ := zA ((by rw [hg]; exact Nat.ne_of_gt (blk_lt (g := gb351) (o := .cells #[.int .u64 a0_0, .int .u64 a0_1] 24 (0, 0)) (by (with_reducible repeat (first | refine zgq ?_ _ | refine zhq ?_ | refine ziq ?_ _)); exact BK351.out)) : gb352 ≠ gb351)); clear BK351; clear HB; have BK351 := n0_; have HB := n1_; have BK352 := n2_; have GW352 := n3_; have GE352 := n4_; have NB351_352 := n5_; have NB352_351 := n6_; clear n0_ n1_ n2_ n3_ n4_ n5_ n6_; clear hb hbox hg; have hnb10 := NB351_352.out; have hnc10 := NB352_351.out; have hcz11_0 : w9.cell? ⟨gb351, 0, none⟩ = some (.int .u64 a0_0) := (zmq BK351.out 0).trans rfl; have hcz11_1 : w9.cell? ⟨gb351, 1, none⟩ = some (.int .u64 a0_1) := (zmq BK351.out 1).trans rfl; have hfz11_0 := znq BK351.out 0; have hfz11_1 := znq BK351.out 1) | (go_at_call 90; (with_reducible refine (bits_Div64.calls k (Int.tmod a0_0 a1) a0_1 a1 t353 t354 _ A7.out).mono ?_); rintro e w' ⟨rfl, ⟨nd, rfl⟩⟩; (try first | exact ⟨rfl, _, World.drewN_drewN _ _ _⟩ | exact ⟨rfl, _, Eq.trans (World.drewN_drewN _ _ _) (congrArg (World.drewN _) (Nat.add_assoc _ _ _))⟩); have hcz12_0 : w9.cell? ⟨gb352, 0, none⟩ = some (.int .u64 0) := (zmq BK352.out 0).trans rfl; have hcz12_1 : w9.cell? ⟨gb352, 1, none⟩ = some (.int .u64 0) := (zmq BK352.out 1).trans rfl; have hfz12_0 := znq BK352.out 0; have hfz12_1 := znq BK352.out 1))
  repeat (go_quiet (first | ((with_reducible refine zpq (N := 2) rfl ?_); refine zqq ?hg (N := 2) ?hd (cs := #[.int .u64 a0_0, .int .u64 a0_1]) (t := 24) ?hr ?_; (case hd => rfl); (case hg => rfl); (case hr => first | (go_simp; done) | (go_simp; rfl)); intro gb351 hg w8 hbox hb; have n0_ := zA (zeq (by repeat (first | (with_reducible first | exact HB.out | apply zaq | apply zbq | apply zcq) | exact HB.out)) hb); have n1_ := zA (hbox); have n2_ := zA ((by rw [hg]; exact (zfq (by repeat (first | (with_reducible first | exact HB.out | apply zaq | apply zbq | apply zcq) | exact HB.out))) : w.heap.size ≤ gb351)); have n3_ := zA ((by rw [hg]; exact (zfq (by repeat (first | (with_reducible first | exact HB.out | apply zaq | apply zbq | apply zcq) | exact HB.out))) : w.heap.size ≤ gb351)); clear HB; have HB := n0_; have BK351 := n1_; have GW351 := n2_; have GE351 := n3_; clear n0_ n1_ n2_ n3_; clear hb hbox hg) | ((with_reducible refine zpq (N := 4) rfl ?_); refine zqq ?hg (N := 4) ?hd (cs := #[.int .u64 0, .int .u64 0]) (t := 24) ?hr ?_; (case hd => rfl); (case hg => rfl); (case hr => first | (go_simp; done) | (go_simp; rfl)); intro gb352 hg w9 hbox hb; have n0_ := zA (zlq (g := gb351) (o := .cells #[.int .u64 a0_0, .int .u64 a0_1] 24 (0, 0)) (by (with_reducible repeat (first | refine zgq ?_ _ | refine zhq ?_ | refine ziq ?_ _)); exact BK351.out) hb); have n1_ := zA (zeq (by repeat (first | (with_reducible first | exact HB.out | apply zaq | apply zbq | apply zcq | refine zdq ?_ GE351.out) | exact HB.out)) hb); have n2_ := zA (hbox); have n3_ := zA ((by rw [hg]; exact (zfq (by repeat (first | (with_reducible first | exact HB.out | apply zaq | apply zbq | apply zcq | refine zdq ?_ GE351.out) | exact HB.out))) : w.heap.size ≤ gb352)); have n4_ := zA ((by rw [hg]; exact (zfq (by repeat (first | (with_reducible first | exact HB.out | apply zaq | apply zbq | apply zcq | refine zdq ?_ GE351.out) | exact HB.out))) : w.heap.size ≤ gb352)); have n5_ := zA ((by rw [hg]; exact Nat.ne_of_lt (blk_lt (g := gb351) (o := .cells #[.int .u64 a0_0, .int .u64 a0_1] 24 (0, 0)) (by (with_reducible repeat (first | refine zgq ?_ _ | refine zhq ?_ | refine ziq ?_ _)); exact BK351.out)) : gb351 ≠ gb352)); have n6_ := zA ((by rw [hg]; exact Nat.ne_of_gt (blk_lt (g := gb351) (o := .cells #[.int .u64 a0_0, .int .u64 a0_1] 24 (0, 0)) (by (with_reducible repeat (first | refine zgq ?_ _ | refine zhq ?_ | refine ziq ?_ _)); exact BK351.out)) : gb352 ≠ gb351)); clear BK351; clear HB; have BK351 := n0_; have HB := n1_; have BK352 := n2_; have GW352 := n3_; have GE352 := n4_; have NB351_352 := n5_; have NB352_351 := n6_; clear n0_ n1_ n2_ n3_ n4_ n5_ n6_; clear hb hbox hg; have hnb10 := NB351_352.out; have hnc10 := NB352_351.out; have hcz11_0 : w9.cell? ⟨gb351, 0, none⟩ = some (.int .u64 a0_0) := (zmq BK351.out 0).trans rfl; have hcz11_1 : w9.cell? ⟨gb351, 1, none⟩ = some (.int .u64 a0_1) := (zmq BK351.out 1).trans rfl; have hfz11_0 := znq BK351.out 0; have hfz11_1 := znq BK351.out 1) | (go_at_call 90; (with_reducible refine (bits_Div64.calls k (Int.tmod a0_0 a1) a0_1 a1 t353 t354 _ A7.out).mono ?_); rintro e w' ⟨rfl, ⟨nd, rfl⟩⟩; (try first | exact ⟨rfl, _, World.drewN_drewN _ _ _⟩ | exact ⟨rfl, _, Eq.trans (World.drewN_drewN _ _ _) (congrArg (World.drewN _) (Nat.add_assoc _ _ _))⟩); have hcz12_0 : w9.cell? ⟨gb352, 0, none⟩ = some (.int .u64 0) := (zmq BK352.out 0).trans rfl; have hcz12_1 : w9.cell? ⟨gb352, 1, none⟩ = some (.int .u64 0) := (zmq BK352.out 1).trans rfl; have hfz12_0 := znq BK352.out 0; have hfz12_1 := znq BK352.out 1)); try go_wp2_with (first | ((with_reducible refine zpq (N := 2) rfl ?_); refine zqq ?hg (N := 2) ?hd (cs := #[.int .u64 a0_0, .int .u64 a0_1]) (t := 24) ?hr ?_; (case hd => rfl); (case hg => rfl); (case hr => first | (go_simp; done) | (go_simp; rfl)); intro gb351 hg w8 hbox hb; have n0_ := zA (zeq (by repeat (first | (with_reducible first | exact HB.out | apply zaq | apply zbq | apply zcq) | exact HB.out)) hb); have n1_ := zA (hbox); have n2_ := zA ((by rw [hg]; exact (zfq (by repeat (first | (with_reducible first | exact HB.out | apply zaq | apply zbq | apply zcq) | exact HB.out))) : w.heap.size ≤ gb351)); have n3_ := zA ((by rw [hg]; exact (zfq (by repeat (first | (with_reducible first | exact HB.out | apply zaq | apply zbq | apply zcq) | exact HB.out))) : w.heap.size ≤ gb351)); clear HB; have HB := n0_; have BK351 := n1_; have GW351 := n2_; have GE351 := n3_; clear n0_ n1_ n2_ n3_; clear hb hbox hg) | ((with_reducible refine zpq (N := 4) rfl ?_); refine zqq ?hg (N := 4) ?hd (cs := #[.int .u64 0, .int .u64 0]) (t := 24) ?hr ?_; (case hd => rfl); (case hg => rfl); (case hr => first | (go_simp; done) | (go_simp; rfl)); intro gb352 hg w9 hbox hb; have n0_ := zA (zlq (g := gb351) (o := .cells #[.int .u64 a0_0, .int .u64 a0_1] 24 (0, 0)) (by (with_reducible repeat (first | refine zgq ?_ _ | refine zhq ?_ | refine ziq ?_ _)); exact BK351.out) hb); have n1_ := zA (zeq (by repeat (first | (with_reducible first | exact HB.out | apply zaq | apply zbq | apply zcq | refine zdq ?_ GE351.out) | exact HB.out)) hb); have n2_ := zA (hbox); have n3_ := zA ((by rw [hg]; exact (zfq (by repeat (first | (with_reducible first | exact HB.out | apply zaq | apply zbq | apply zcq | refine zdq ?_ GE351.out) | exact HB.out))) : w.heap.size ≤ gb352)); have n4_ := zA ((by rw [hg]; exact (zfq (by repeat (first | (with_reducible first | exact HB.out | apply zaq | apply zbq | apply zcq | refine zdq ?_ GE351.out) | exact HB.out))) : w.heap.size ≤ gb352)); have n5_ := zA ((by rw [hg]; exact Nat.ne_of_lt (blk_lt (g := gb351) (o := .cells #[.int .u64 a0_0, .int .u64 a0_1] 24 (0, 0)) (by (with_reducible repeat (first | refine zgq ?_ _ | refine zhq ?_ | refine ziq ?_ _)); exact BK351.out)) : gb351 ≠ gb352)); have n6_ := zA ((by rw [hg]; exact Nat.ne_of_gt (blk_lt (g := gb351) (o := .cells #[.int .u64 a0_0, .int .u64 a0_1] 24 (0, 0)) (by (with_reducible repeat (first | refine zgq ?_ _ | refine zhq ?_ | refine ziq ?_ _)); exact BK351.out)) : gb352 ≠ gb351)); clear BK351; clear HB; have BK351 := n0_; have HB := n1_; have BK352 := n2_; have GW352 := n3_; have GE352 := n4_; have NB351_352 := n5_; have NB352_351 := n6_; clear n0_ n1_ n2_ n3_ n4_ n5_ n6_; clear hb hbox hg; have hnb10 := NB351_352.out; have hnc10 := NB352_351.out; have hcz11_0 : w9.cell? ⟨gb351, 0, none⟩ = some (.int .u64 a0_0) := (zmq BK351.out 0).trans rfl; have hcz11_1 : w9.cell? ⟨gb351, 1, none⟩ = some (.int .u64 a0_1) := (zmq BK351.out 1).trans rfl; have hfz11_0 := znq BK351.out 0; have hfz11_1 := znq BK351.out 1) | (go_at_call 90; (with_reducible refine (bits_Div64.calls k (Int.tmod a0_0 a1) a0_1 a1 t353 t354 _ A7.out).mono ?_); rintro e w' ⟨rfl, ⟨nd, rfl⟩⟩; (try first | exact ⟨rfl, _, World.drewN_drewN _ _ _⟩ | exact ⟨rfl, _, Eq.trans (World.drewN_drewN _ _ _) (congrArg (World.drewN _) (Nat.add_assoc _ _ _))⟩); have hcz12_0 : w9.cell? ⟨gb352, 0, none⟩ = some (.int .u64 0) := (zmq BK352.out 0).trans rfl; have hcz12_1 : w9.cell? ⟨gb352, 1, none⟩ = some (.int .u64 0) := (zmq BK352.out 1).trans rfl; have hfz12_0 := znq BK352.out 0; have hfz12_1 := znq BK352.out 1)))
  refine bodyPost_ret (results_ctt rfl _ _ gb352 24 #[.int .u64 (IntKind.u64.wrap (Int.tdiv a0_0 a1)), .int .u64 t353] (0, 0) _ rfl (by (with_reducible repeat (first | refine zgq ?_ _ | refine zhq ?_ | refine ziq ?_ _)); refine zkq (cs := #[.int .u64 (IntKind.u64.wrap (Int.tdiv a0_0 a1)), .int .u64 0]) ?_ 1 _ rfl; (with_reducible repeat (first | refine zgq ?_ _ | refine zhq ?_ | refine ziq ?_ _)); refine zkq (cs := #[.int .u64 0, .int .u64 0]) ?_ 0 _ rfl; (with_reducible repeat (first | refine zgq ?_ _ | refine zhq ?_ | refine ziq ?_ _)); exact BK352.out) Try.underlying24 rfl (by kernel_rfl)) rfl ?_
  exact ⟨by first | rfl | (simp [errW_none, errW_some] <;> rfl) | (simp [*, errW_none, errW_some] <;> rfl), by repeat (first | (with_reducible first | exact HB.out | apply zaq | apply zbq | apply zcq | refine zdq ?_ GE352.out) | exact HB.out)⟩

/-! ### wide_Root: function 58 -/
def wide_Root.l0 : Nat → Int → Int → Int → Int → Option (Int × Bool)
 | 0, _, _, _, _ => none
 | k + 1, x4, x5, x356000, x356001 => if x5 > 0 then ((wide_Mul.f (Go.bits .or .u64 x4 x5) (Go.bits .or .u64 x4 x5)).bind fun bt358 => ((wide_Cmp.f bt358.1 bt358.2 x356000 x356001).bind fun t360 => (if t360 ≤ 0 then (wide_Root.l0 k (Go.bits .or .u64 x4 x5) (x5 / 2) x356000 x356001) else (wide_Root.l0 k x4 (x5 / 2) x356000 x356001)))) else ((wide_Mul.f x4 x4).bind fun bt356 => (some (x4, (bt356.1 == x356000 && (bt356.2 == x356001)))))
def wide_Root.f (k : Nat) (a0_0 : Int) (a0_1 : Int) : Option (Int × Bool) := wide_Root.l0 k 0 9223372036854775808 a0_0 a0_1
theorem wide_Root.mono_l : ∀ k, (∀ y0 y1 y2 y3, LeO (wide_Root.l0 k y0 y1 y2 y3) (wide_Root.l0 (k + 1) y0 y1 y2 y3))
 | 0 => fun _ _ _ _ r h => by simp [wide_Root.l0] at h
 | k + 1 => by
  have ih0 := wide_Root.mono_l k
  ·
   intro y0 y1 y2 y3
   unfold wide_Root.l0
   repeat' first
   | (with_reducible exact ih0 _ _ _ _)
   | (with_reducible exact LeO.refl _)
   | (with_reducible exact LeO.none _)
   | (with_reducible refine LeO.ite ?_ ?_)
   | (with_reducible refine LeO.bind ?_ (fun _ => ?_))
   | exact ih0 _ _ _ _
   | exact LeO.none _
   | refine LeO.ite ?_ ?_
   | refine LeO.bind ?_ (fun _ => ?_)
theorem wide_Root.mono : ∀ a0 a1 k, LeO (wide_Root.f k a0 a1) (wide_Root.f (k + 1) a0 a1) := by
 intro a0 a1 k
 have ih0 := wide_Root.mono_l k
 unfold wide_Root.f
 repeat' first
   | (with_reducible exact ih0 _ _ _ _)
   | (with_reducible exact LeO.refl _)
   | (with_reducible exact LeO.none _)
   | (with_reducible refine LeO.ite ?_ ?_)
   | (with_reducible refine LeO.bind ?_ (fun _ => ?_))
   | exact ih0 _ _ _ _
   | exact LeO.none _
   | refine LeO.ite ?_ ?_
   | refine LeO.bind ?_ (fun _ => ?_)
def wide_Root.T8 : Bool × List (List Nat × List Nat) := (true, [([], []), ([], []), ([], []), ([1, 2], [1, 2]), ([], []), ([3, 4], [3, 4]), ([0, 3, 0], [0]), ([5, 6, 0, 1, 2, 3, 4, 5, 6], [5])])
def wide_Root.B8 : List Nat := [0, 0, 0, 6, 0, 30, 15, 127]
theorem wide_Root.tab8 : rtab .any (opsOf Try.f58 8) = wide_Root.T8 := by kernel_rfl
theorem wide_Root.bits8 : waitsOk wide_Root.T8.2 wide_Root.B8 = true := by kernel_rfl
set_option maxHeartbeats 8000000 in
set_option maxRecDepth 100000 in
theorem wide_Root.calls (k : Nat) (a0_0 : Int) (a0_1 : Int) (r1 : Int) (r2 : Bool) (w : World) (h : wide_Root.f k a0_0 a0_1 = some (r1, r2)) :
  Calls Try.prog 58 #[.agg #[.int .u64 a0_0, .int .u64 a0_1]] w fun e w' => e = .returned (.tuple #[.int .u64 r1, .bool r2]) ∧ Below w.heap.size w w' := by
 have hu24 := Try.underlying24
 have HB := zA (Below.refl w.heap.size w)
 have H : (wide_Root.l0 k 0 9223372036854775808 a0_0 a0_1) = some (r1, r2) := h
 clear h
 have H' := zA H
 clear H
 go_enter Try.func58, Try.ntmps58
 go_wp2_with (first | ((with_reducible refine zpq (N := 1) rfl ?_); refine zqq ?hg (N := 1) ?hd (cs := #[.int .u64 a0_0, .int .u64 a0_1]) (t := 24) ?hr ?_; (case hd => rfl); (case hg => rfl); (case hr => first | (go_simp; done) | (go_simp; rfl)); intro gb355 hg w2 hbox hb; have n0_ := zA (zeq (by repeat (first | (with_reducible first | exact HB.out | apply zaq | apply zbq | apply zcq) | exact HB.out)) hb); have n1_ := zA (hbox); have n2_ := zA ((by rw [hg]; exact (zfq (by repeat (first | (with_reducible first | exact HB.out | apply zaq | apply zbq | apply zcq) | exact HB.out))) : w.heap.size ≤ gb355)); have n3_ := zA ((by rw [hg]; exact (zfq (by repeat (first | (with_reducible first | exact HB.out | apply zaq | apply zbq | apply zcq) | exact HB.out))) : w.heap.size ≤ gb355)); clear HB; have HB := n0_; have BK355 := n1_; have GW355 := n2_; have GE355 := n3_; clear n0_ n1_ n2_ n3_; clear hb hbox hg))
 go_loopg [4, 5] k (fun kq v4 v5 w' => ∃ (x4_1 : Int) (x5_1 : Int), v4 = .int .u64 x4_1 ∧ v5 = .int .u64 x5_1 ∧ Aside0 (wide_Root.l0 kq x4_1 x5_1 a0_0 a0_1 = some (r1, r2)) ∧ Aside0 (kq ≤ k) ∧ Aside0 (w'.heap[gb355]? = some (.cells #[.int .u64 a0_0, .int .u64 a0_1] 24 (0, 0))) ∧ Aside0 (Below w.heap.size w w'))
 case atStart => exact ⟨(0), (9223372036854775808), (by first | rfl | (simp; done) | (simp [*]; done)), (by first | rfl | (simp; done) | (simp [*]; done)), H', ⟨Nat.le_refl _⟩, ⟨by (with_reducible repeat (first | refine zgq ?_ _ | refine zhq ?_ | refine ziq ?_ _)); exact BK355.out⟩, ⟨by repeat (first | (with_reducible first | exact HB.out | apply zaq | apply zbq | apply zcq | refine zdq ?_ GE355.out) | exact HB.out)⟩⟩
 case round =>
  clear H'
  try clear p2
  obtain ⟨x4_1, x5_1, rfl, rfl, HA, HK1, BK355, HB⟩ := hrel
  cases gk with
  | zero => exact absurd HA.out (by simp [wide_Root.l0])
  | succ k1 =>
   have H := HA.out
   clear HA
   simp only [wide_Root.l0] at H
   by_cases c3 : x5_1 > 0
   ·
    rw [if_pos c3] at H
    have c3b0 : decide (0 < x5_1) = true := decide_eq_true c3
    clear c3
    replace H := Option.bind_eq_some_iff.mp H
    obtain ⟨⟨t358, t359⟩, A40, H⟩ := H
    replace H : ((wide_Cmp.f t358 t359 a0_0 a0_1).bind fun t360 => (if t360 ≤ 0 then (wide_Root.l0 k1 (Go.bits .or .u64 x4_1 x5_1) (x5_1 / 2) a0_0 a0_1) else (wide_Root.l0 k1 x4_1 (x5_1 / 2) a0_0 a0_1))) = some (r1, r2) := H
    have A4 := zA A40
    clear A40
    replace H := Option.bind_eq_some_iff.mp H
    obtain ⟨t360, A50, H⟩ := H
    replace H : (if t360 ≤ 0 then (wide_Root.l0 k1 (Go.bits .or .u64 x4_1 x5_1) (x5_1 / 2) a0_0 a0_1) else (wide_Root.l0 k1 x4_1 (x5_1 / 2) a0_0 a0_1)) = some (r1, r2) := H
    have A5 := zA A50
    clear A50
    by_cases c6 : t360 ≤ 0
    ·
     rw [if_pos c6] at H
     have c6b0 : decide (t360 ≤ 0) = true := decide_eq_true c6
     clear c6
     have H' := zA H
     clear H
     try go_wp2
     have n0_ := zA (zhq BK355.out)
     have n1_ := zA (zcq HB.out)
     clear BK355
     clear HB
     have BK355 := n0_
     have HB := n1_
     clear n0_ n1_
     refine start_ (n := 6) (S := fun w' => w'.cell? ⟨gb355, 0, none⟩ = some (.int .u64 a0_0) ∧ w'.cell? ⟨gb355, 1, none⟩ = some (.int .u64 a0_1)) (ds := []) #[false, false, false, false, false, false] (by kernel_rfl) rfl rfl ⟨(zmq BK355.out 0).trans rfl, (zmq BK355.out 1).trans rfl⟩ (fun hHeld => ?_)
     generalize wr.drew = w7 at BK355 HB hHeld ⊢
     refine pure_ (i := 0) (N := some 14) (v := ?_) (a' := ?_) #[true, false, false, false, false, false] rfl rfl (by kernel_rfl) (fun _ _ _ h => h) (Or.inl ⟨by rfl, ?_⟩) ?_ ?_
     rotate_left
     ·
      intro w'
      go_simp
      with_reducible rfl
     rotate_left
     ·
      simp only [Act.put, List.setIfInBounds_toArray, List.set_cons_zero, List.set_cons_succ, i64_w, i32_w]
      rfl
     refine pure_ (i := 1) (N := some 15) (v := ?_) (a' := ?_) #[true, true, false, false, false, false] rfl rfl (by kernel_rfl) (fun _ _ _ h => h) (Or.inl ⟨by rfl, ?_⟩) ?_ ?_
     rotate_left
     ·
      intro w'
      go_simp
      with_reducible rfl
     rotate_left
     ·
      simp only [Act.put, List.setIfInBounds_toArray, List.set_cons_zero, List.set_cons_succ, i64_w, i32_w]
      rfl
     refine take_ (i := 3) (N := some 17) (v := ?_) (a' := ?_) #[true, true, false, true, false, false] rfl rfl (by kernel_rfl) (fun _ _ _ h => h) (Or.inl ⟨by rfl, ?_⟩) hHeld ?_ ?_
     rotate_left
     ·
      rintro w' ⟨s0, s1⟩
      go_simp
      with_reducible rfl
     rotate_left
     ·
      simp only [Act.put, List.setIfInBounds_toArray, List.set_cons_zero, List.set_cons_succ, i64_w, i32_w]
      rfl
     refine one_ (i := 2) (N := some 16) #[true, true, true, true, false, false] rfl rfl (by kernel_rfl) (by decide) (fun K hK => ?_)
     refine goes_ Try.func46 (by kernel_rfl) rfl #[.int .u64 (Go.bits .or .u64 x4_1 x5_1), .int .u64 (Go.bits .or .u64 x4_1 x5_1)] (by rfl) rfl rfl (by (try simp only [List.map_toArray, List.map_cons, List.map_nil]); first | done | rfl | (simp only [List.length_drop, List.length_take]; rfl)) ?_
     with_reducible refine (wide_Mul.calls (Go.bits .or .u64 x4_1 x5_1) (Go.bits .or .u64 x4_1 x5_1) t358 t359 _ A4.out).mono ?_
     rintro e w8 ⟨rfl, hb⟩
     refine ⟨_, rfl, ?_⟩
     have n0_ := zA (zlq (g := gb355) (o := .cells #[.int .u64 a0_0, .int .u64 a0_1] 24 (0, 0)) (by (with_reducible repeat (first | refine zgq ?_ _ | refine zhq ?_ | refine ziq ?_ _)); exact BK355.out) hb)
     have n1_ := zA (zeq (by repeat (first | (with_reducible first | exact HB.out | apply zaq | apply zbq | apply zcq | refine zdq ?_ GE355.out) | exact HB.out)) hb)
     clear BK355
     clear HB
     have BK355 := n0_
     have HB := n1_
     clear n0_ n1_
     (try clear hb)
     (try clear hb2)
     (try clear hk)
     (try clear hi)
     refine hK.out _ _ ⟨(zmq BK355.out 0).trans rfl, (zmq BK355.out 1).trans rfl⟩ (fun hHeld => ?_)
     clear hK K
     refine norm_ (a' := ?_) ?_ ?_
     rotate_left
     ·
      show Act.put _ (some 16) _ = _
      simp only [Act.put, List.setIfInBounds_toArray, List.set_cons_zero, List.set_cons_succ, i64_w, i32_w]
      rfl
     refine one_ (i := 4) (N := some 18) #[true, true, true, true, true, false] rfl rfl (by kernel_rfl) (by decide) (fun K hK => ?_)
     refine goes_ Try.func27 (by kernel_rfl) rfl #[.agg #[.int .u64 t358, .int .u64 t359], .agg #[.int .u64 a0_0, .int .u64 a0_1]] (by rfl) rfl rfl (by (try simp only [List.map_toArray, List.map_cons, List.map_nil]); first | done | rfl | (simp only [List.length_drop, List.length_take]; rfl)) ?_
     with_reducible refine (wide_Cmp.calls t358 t359 a0_0 a0_1 t360 _ A5.out).mono ?_
     rintro e w9 ⟨rfl, hb⟩
     refine ⟨_, rfl, ?_⟩
     have n0_ := zA (zlq (g := gb355) (o := .cells #[.int .u64 a0_0, .int .u64 a0_1] 24 (0, 0)) (by (with_reducible repeat (first | refine zgq ?_ _ | refine zhq ?_ | refine ziq ?_ _)); exact BK355.out) hb)
     have n1_ := zA (zeq (by repeat (first | (with_reducible first | exact HB.out | apply zaq | apply zbq | apply zcq | refine zdq ?_ GE355.out) | exact HB.out)) hb)
     clear BK355
     clear HB
     have BK355 := n0_
     have HB := n1_
     clear n0_ n1_
     (try clear hb)
     (try clear hb2)
     (try clear hk)
     (try clear hi)
     refine hK.out _ _ ⟨(zmq BK355.out 0).trans rfl, (zmq BK355.out 1).trans rfl⟩ (fun hHeld => ?_)
     clear hK K
     refine norm_ (a' := ?_) ?_ ?_
     rotate_left
     ·
      show Act.put _ (some 18) _ = _
      simp only [Act.put, List.setIfInBounds_toArray, List.set_cons_zero, List.set_cons_succ, i64_w, i32_w]
      rfl
     refine pure_ (i := 5) (N := some 19) (v := ?_) (a' := ?_) #[true, true, true, true, true, true] rfl rfl (by kernel_rfl) (fun _ _ _ h => h) (Or.inl ⟨by rfl, ?_⟩) ?_ ?_
     rotate_left
     ·
      intro w'
      go_simp
      with_reducible rfl
     rotate_left
     ·
      simp only [Act.put, List.setIfInBounds_toArray, List.set_cons_zero, List.set_cons_succ, i64_w, i32_w]
      rfl
     refine done_ (by kernel_rfl) ?_
     try go_wp2
     go_roundg k1
     case measure => have := HK1.out; omega
     case rel => exact ⟨(Go.bits .or .u64 x4_1 x5_1), (x5_1 / 2), (by first | rfl | (simp; done) | (simp [*]; done)), (by first | rfl | (simp; done) | (simp [*]; done)), H', ⟨by have := HK1.out; omega⟩, ⟨by (with_reducible repeat (first | refine zgq ?_ _ | refine zhq ?_ | refine ziq ?_ _)); exact BK355.out⟩, ⟨by repeat (first | (with_reducible first | exact HB.out | apply zaq | apply zbq | apply zcq | refine zdq ?_ GE355.out) | exact HB.out)⟩⟩
    ·
     rw [if_neg c6] at H
     have c6b0 : decide (t360 ≤ 0) = false := decide_eq_false c6
     clear c6
     have H' := zA H
     clear H
     try go_wp2
     have n0_ := zA (zhq BK355.out)
     have n1_ := zA (zcq HB.out)
     clear BK355
     clear HB
     have BK355 := n0_
     have HB := n1_
     clear n0_ n1_
     refine start_ (n := 6) (S := fun w' => w'.cell? ⟨gb355, 0, none⟩ = some (.int .u64 a0_0) ∧ w'.cell? ⟨gb355, 1, none⟩ = some (.int .u64 a0_1)) (ds := []) #[false, false, false, false, false, false] (by kernel_rfl) rfl rfl ⟨(zmq BK355.out 0).trans rfl, (zmq BK355.out 1).trans rfl⟩ (fun hHeld => ?_)
     generalize wr.drew = w10 at BK355 HB hHeld ⊢
     refine pure_ (i := 0) (N := some 14) (v := ?_) (a' := ?_) #[true, false, false, false, false, false] rfl rfl (by kernel_rfl) (fun _ _ _ h => h) (Or.inl ⟨by rfl, ?_⟩) ?_ ?_
     rotate_left
     ·
      intro w'
      go_simp
      with_reducible rfl
     rotate_left
     ·
      simp only [Act.put, List.setIfInBounds_toArray, List.set_cons_zero, List.set_cons_succ, i64_w, i32_w]
      rfl
     refine pure_ (i := 1) (N := some 15) (v := ?_) (a' := ?_) #[true, true, false, false, false, false] rfl rfl (by kernel_rfl) (fun _ _ _ h => h) (Or.inl ⟨by rfl, ?_⟩) ?_ ?_
     rotate_left
     ·
      intro w'
      go_simp
      with_reducible rfl
     rotate_left
     ·
      simp only [Act.put, List.setIfInBounds_toArray, List.set_cons_zero, List.set_cons_succ, i64_w, i32_w]
      rfl
     refine take_ (i := 3) (N := some 17) (v := ?_) (a' := ?_) #[true, true, false, true, false, false] rfl rfl (by kernel_rfl) (fun _ _ _ h => h) (Or.inl ⟨by rfl, ?_⟩) hHeld ?_ ?_
     rotate_left
     ·
      rintro w' ⟨s0, s1⟩
      go_simp
      with_reducible rfl
     rotate_left
     ·
      simp only [Act.put, List.setIfInBounds_toArray, List.set_cons_zero, List.set_cons_succ, i64_w, i32_w]
      rfl
     refine one_ (i := 2) (N := some 16) #[true, true, true, true, false, false] rfl rfl (by kernel_rfl) (by decide) (fun K hK => ?_)
     refine goes_ Try.func46 (by kernel_rfl) rfl #[.int .u64 (Go.bits .or .u64 x4_1 x5_1), .int .u64 (Go.bits .or .u64 x4_1 x5_1)] (by rfl) rfl rfl (by (try simp only [List.map_toArray, List.map_cons, List.map_nil]); first | done | rfl | (simp only [List.length_drop, List.length_take]; rfl)) ?_
     with_reducible refine (wide_Mul.calls (Go.bits .or .u64 x4_1 x5_1) (Go.bits .or .u64 x4_1 x5_1) t358 t359 _ A4.out).mono ?_
     rintro e w11 ⟨rfl, hb⟩
     refine ⟨_, rfl, ?_⟩
     have n0_ := zA (zlq (g := gb355) (o := .cells #[.int .u64 a0_0, .int .u64 a0_1] 24 (0, 0)) (by (with_reducible repeat (first | refine zgq ?_ _ | refine zhq ?_ | refine ziq ?_ _)); exact BK355.out) hb)
     have n1_ := zA (zeq (by repeat (first | (with_reducible first | exact HB.out | apply zaq | apply zbq | apply zcq | refine zdq ?_ GE355.out) | exact HB.out)) hb)
     clear BK355
     clear HB
     have BK355 := n0_
     have HB := n1_
     clear n0_ n1_
     (try clear hb)
     (try clear hb2)
     (try clear hk)
     (try clear hi)
     refine hK.out _ _ ⟨(zmq BK355.out 0).trans rfl, (zmq BK355.out 1).trans rfl⟩ (fun hHeld => ?_)
     clear hK K
     refine norm_ (a' := ?_) ?_ ?_
     rotate_left
     ·
      show Act.put _ (some 16) _ = _
      simp only [Act.put, List.setIfInBounds_toArray, List.set_cons_zero, List.set_cons_succ, i64_w, i32_w]
      rfl
     refine one_ (i := 4) (N := some 18) #[true, true, true, true, true, false] rfl rfl (by kernel_rfl) (by decide) (fun K hK => ?_)
     refine goes_ Try.func27 (by kernel_rfl) rfl #[.agg #[.int .u64 t358, .int .u64 t359], .agg #[.int .u64 a0_0, .int .u64 a0_1]] (by rfl) rfl rfl (by (try simp only [List.map_toArray, List.map_cons, List.map_nil]); first | done | rfl | (simp only [List.length_drop, List.length_take]; rfl)) ?_
     with_reducible refine (wide_Cmp.calls t358 t359 a0_0 a0_1 t360 _ A5.out).mono ?_
     rintro e w12 ⟨rfl, hb⟩
     refine ⟨_, rfl, ?_⟩
     have n0_ := zA (zlq (g := gb355) (o := .cells #[.int .u64 a0_0, .int .u64 a0_1] 24 (0, 0)) (by (with_reducible repeat (first | refine zgq ?_ _ | refine zhq ?_ | refine ziq ?_ _)); exact BK355.out) hb)
     have n1_ := zA (zeq (by repeat (first | (with_reducible first | exact HB.out | apply zaq | apply zbq | apply zcq | refine zdq ?_ GE355.out) | exact HB.out)) hb)
     clear BK355
     clear HB
     have BK355 := n0_
     have HB := n1_
     clear n0_ n1_
     (try clear hb)
     (try clear hb2)
     (try clear hk)
     (try clear hi)
     refine hK.out _ _ ⟨(zmq BK355.out 0).trans rfl, (zmq BK355.out 1).trans rfl⟩ (fun hHeld => ?_)
     clear hK K
     refine norm_ (a' := ?_) ?_ ?_
     rotate_left
     ·
      show Act.put _ (some 18) _ = _
      simp only [Act.put, List.setIfInBounds_toArray, List.set_cons_zero, List.set_cons_succ, i64_w, i32_w]
      rfl
     refine pure_ (i := 5) (N := some 19) (v := ?_) (a' := ?_) #[true, true, true, true, true, true] rfl rfl (by kernel_rfl) (fun _ _ _ h => h) (Or.inl ⟨by rfl, ?_⟩) ?_ ?_
     rotate_left
     ·
      intro w'
      go_simp
      with_reducible rfl
     rotate_left
     ·
      simp only [Act.put, List.setIfInBounds_toArray, List.set_cons_zero, List.set_cons_succ, i64_w, i32_w]
      rfl
     refine done_ (by kernel_rfl) ?_
     try go_wp2
     go_roundg k1
     case measure => have := HK1.out; omega
     case rel => exact ⟨(x4_1), (x5_1 / 2), (by first | rfl | (simp; done) | (simp [*]; done)), (by first | rfl | (simp; done) | (simp [*]; done)), H', ⟨by have := HK1.out; omega⟩, ⟨by (with_reducible repeat (first | refine zgq ?_ _ | refine zhq ?_ | refine ziq ?_ _)); exact BK355.out⟩, ⟨by repeat (first | (with_reducible first | exact HB.out | apply zaq | apply zbq | apply zcq | refine zdq ?_ GE355.out) | exact HB.out)⟩⟩
   ·
    rw [if_neg c3] at H
    have c3b0 : decide (0 < x5_1) = false := decide_eq_false c3
    clear c3
    replace H := Option.bind_eq_some_iff.mp H
    obtain ⟨⟨t356, t357⟩, A130, H⟩ := H
    replace H : (some (x4_1, (t356 == a0_0 && (t357 == a0_1)))) = some (r1, r2) := H
    have A13 := zA A130
    clear A130
    simp only [Option.some.injEq, Prod.mk.injEq] at H
    obtain ⟨rfl, rfl⟩ := H
    try go_wp2
    have n0_ := zA (zhq BK355.out)
    have n1_ := zA (zcq HB.out)
    clear BK355
    clear HB
    have BK355 := n0_
    have HB := n1_
    clear n0_ n1_
    refine start_ (n := 8) (S := fun w' => w'.cell? ⟨gb355, 0, none⟩ = some (.int .u64 a0_0) ∧ w'.cell? ⟨gb355, 1, none⟩ = some (.int .u64 a0_1)) (ds := []) #[false, false, false, false, false, false, false, false] (by kernel_rfl) rfl rfl ⟨(zmq BK355.out 0).trans rfl, (zmq BK355.out 1).trans rfl⟩ (fun hHeld => ?_); refine with_tabW wide_Root.tab8 wide_Root.bits8 (fun HT_ HW_ => ?_)
    generalize wr.drew = w14 at BK355 HB hHeld ⊢
    refine pure_ (i := 0) (N := some 21) (v := ?_) (a' := ?_) #[true, false, false, false, false, false, false, false] rfl rfl (any_of HT_.out (by kernel_rfl)) (fun _ _ _ h => h) (Or.inl ⟨by rfl, ?_⟩) ?_ ?_
    rotate_left
    ·
     intro w'
     go_simp
     with_reducible rfl
    rotate_left
    ·
     simp only [Act.put, List.setIfInBounds_toArray, List.set_cons_zero, List.set_cons_succ, i64_w, i32_w]
     rfl
    refine pure_ (i := 1) (N := some 22) (v := ?_) (a' := ?_) #[true, true, false, false, false, false, false, false] rfl rfl (any_of HT_.out (by kernel_rfl)) (fun _ _ _ h => h) (Or.inl ⟨by rfl, ?_⟩) ?_ ?_
    rotate_left
    ·
     intro w'
     go_simp
     with_reducible rfl
    rotate_left
    ·
     simp only [Act.put, List.setIfInBounds_toArray, List.set_cons_zero, List.set_cons_succ, i64_w, i32_w]
     rfl
    refine pure_ (i := 2) (N := some 23) (v := ?_) (a' := ?_) #[true, true, true, false, false, false, false, false] rfl rfl (any_of HT_.out (by kernel_rfl)) (fun _ _ _ h => h) (Or.inl ⟨by rfl, ?_⟩) ?_ ?_
    rotate_left
    ·
     intro w'
     go_simp
     with_reducible rfl
    rotate_left
    ·
     simp only [Act.put, List.setIfInBounds_toArray, List.set_cons_zero, List.set_cons_succ, i64_w, i32_w]
     rfl
    refine take_ (i := 4) (N := some 25) (v := ?_) (a' := ?_) #[true, true, true, false, true, false, false, false] rfl rfl (take_ofW HT_.out HW_.out (by kernel_rfl)) (fun _ _ _ h => h) (Or.inl ⟨by rfl, ?_⟩) hHeld ?_ ?_
    rotate_left
    ·
     rintro w' ⟨s0, s1⟩
     go_simp
     with_reducible rfl
    rotate_left
    ·
     simp only [Act.put, List.setIfInBounds_toArray, List.set_cons_zero, List.set_cons_succ, i64_w, i32_w]
     rfl
    refine one_ (i := 3) (N := some 24) #[true, true, true, true, true, false, false, false] rfl rfl (one_of HT_.out (by kernel_rfl)) (by decide) (fun K hK => ?_)
    refine goes_ Try.func46 (by kernel_rfl) rfl #[.int .u64 x4_1, .int .u64 x4_1] (by rfl) rfl rfl (by (try simp only [List.map_toArray, List.map_cons, List.map_nil]); first | done | rfl | (simp only [List.length_drop, List.length_take]; rfl)) ?_
    with_reducible refine (wide_Mul.calls x4_1 x4_1 t356 t357 _ A13.out).mono ?_
    rintro e w15 ⟨rfl, hb⟩
    refine ⟨_, rfl, ?_⟩
    have n0_ := zA (zlq (g := gb355) (o := .cells #[.int .u64 a0_0, .int .u64 a0_1] 24 (0, 0)) (by (with_reducible repeat (first | refine zgq ?_ _ | refine zhq ?_ | refine ziq ?_ _)); exact BK355.out) hb)
    have n1_ := zA (zeq (by repeat (first | (with_reducible first | exact HB.out | apply zaq | apply zbq | apply zcq | refine zdq ?_ GE355.out) | exact HB.out)) hb)
    clear BK355
    clear HB
    have BK355 := n0_
    have HB := n1_
    clear n0_ n1_
    (try clear hb)
    (try clear hb2)
    (try clear hk)
    (try clear hi)
    refine hK.out _ _ ⟨(zmq BK355.out 0).trans rfl, (zmq BK355.out 1).trans rfl⟩ (fun hHeld => ?_)
    clear hK K
    refine norm_ (a' := ?_) ?_ ?_
    rotate_left
    ·
     show Act.put _ (some 24) _ = _
     simp only [Act.put, List.setIfInBounds_toArray, List.set_cons_zero, List.set_cons_succ, i64_w, i32_w]
     rfl
    refine pure_ (i := 5) (N := some 26) (v := ?_) (a' := ?_) #[true, true, true, true, true, true, false, false] rfl rfl (any_of HT_.out (by kernel_rfl)) (fun _ _ _ h => h) (Or.inl ⟨by rfl, ?_⟩) ?_ ?_
    rotate_left
    ·
     intro w'
     go_simp
     with_reducible rfl
    rotate_left
    ·
     simp only [Act.put, List.setIfInBounds_toArray, List.set_cons_zero, List.set_cons_succ, i64_w, i32_w]
     rfl
    refine pure_ (i := 6) (N := some 2) (v := ?_) (a' := ?_) #[true, true, true, true, true, true, true, false] rfl rfl (any_of HT_.out (by kernel_rfl)) (fun _ _ _ h => h) (Or.inl ⟨by rfl, ?_⟩) ?_ ?_
    rotate_left
    ·
     intro w'
     go_simp
     with_reducible rfl
    rotate_left
    ·
     simp only [Act.put, List.setIfInBounds_toArray, List.set_cons_zero, List.set_cons_succ, i64_w, i32_w]
     rfl
    refine pure_ (i := 7) (N := some 3) (v := ?_) (a' := ?_) #[true, true, true, true, true, true, true, true] rfl rfl (any_of HT_.out (by kernel_rfl)) (fun _ _ _ h => h) (Or.inl ⟨by rfl, ?_⟩) ?_ ?_
    rotate_left
    ·
     intro w'
     go_simp
     with_reducible rfl
    rotate_left
    ·
     simp only [Act.put, List.setIfInBounds_toArray, List.set_cons_zero, List.set_cons_succ, i64_w, i32_w]
     rfl
    refine done_ (done_of HT_.out (by kernel_rfl)) ?_
    try go_wp2
    go_ret2
    exact ⟨by first | rfl | (simp [errW_none, errW_some] <;> rfl) | (simp [*, errW_none, errW_some] <;> rfl), by repeat (first | (with_reducible first | exact HB.out | apply zaq | apply zbq | apply zcq | refine zdq ?_ GE355.out) | exact HB.out)⟩

end Go.Proofs.Ytbejjlecpcphoaa.P
