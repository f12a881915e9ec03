-- Written by a program of this session's (a turned print), not by hand.
import Derived.Test.YtbejjlecpcphoaaPx0
import Derived.Test.YtbejjlecpcphoaaPx28
namespace Go.Proofs.Ytbejjlecpcphoaa.P
open Go.RowKit Go.Proofs.YtbejjlecpcphoaaW.PrintWords Go.Proofs.YtbejjlecpcphoaaW.PrintLast Go.Proofs.YtbejjlecpcphoaaW.PrintMore
attribute [local go_sem] max2_int min2_int max_two min_two max_three min_three max_four min_four   -- for this text's walks alone
set_option linter.unusedVariables false
set_option linter.unusedSimpArgs false

/-! ### wide_Times: function 60 -/
def wide_Times.f (a0_0 : Int) (a0_1 : Int) (a1 : Int) : Option (Int × Int × Int) := (wide_Mul.f a0_1 a1).bind fun bt363 => ((wide_Mul.f a0_0 a1).bind fun bt365 => ((bits_Add64.f bt363.1 bt365.2 0).bind fun bt369 => (some (IntKind.u64.wrap (bt365.1 + bt369.2), bt369.1, bt363.2))))
def wide_Times.T1 : Bool × List (List Nat × List Nat) := (true, [([], []), ([0], [0]), ([], []), ([1, 2], [1, 2]), ([], []), ([4], [4]), ([], []), ([5, 6, 3], [5, 6]), ([], []), ([], []), ([8, 3, 7, 0, 1, 2, 3, 8, 9], [3, 8]), ([9, 7, 10, 0, 1, 2, 3, 4, 5, 6, 7, 8, 9, 10], [7, 9])])
def wide_Times.B1 : List Nat := [0, 1, 0, 7, 0, 16, 0, 127, 0, 0, 1023, 2047]
theorem wide_Times.tab1 : rtab .any (opsOf Try.f60 1) = wide_Times.T1 := by kernel_rfl
theorem wide_Times.bits1 : waitsOk wide_Times.T1.2 wide_Times.B1 = true := by kernel_rfl
set_option maxHeartbeats 8000000 in
set_option maxRecDepth 100000 in
theorem wide_Times.calls (a0_0 : Int) (a0_1 : Int) (a1 : Int) (r1 : Int) (r2 : Int) (r3 : Int) (w : World) (h : wide_Times.f a0_0 a0_1 a1 = some (r1, r2, r3)) :
  Calls Try.prog 60 #[.agg #[.int .u64 a0_0, .int .u64 a0_1], .int .u64 a1] w fun e w' => e = .returned (.agg #[.int .u64 r1, .int .u64 r2, .int .u64 r3]) ∧ Below w.heap.size w w' := by
 have hu24 := Try.underlying24
 have hu69 := Try.underlying69
 have HB := zA (Below.refl w.heap.size w)
 have H : ((wide_Mul.f a0_1 a1).bind fun bt363 => ((wide_Mul.f a0_0 a1).bind fun bt365 => ((bits_Add64.f bt363.1 bt365.2 0).bind fun bt369 => (some (IntKind.u64.wrap (bt365.1 + bt369.2), bt369.1, bt363.2))))) = some (r1, r2, r3) := h
 clear h
 replace H := Option.bind_eq_some_iff.mp H
 obtain ⟨⟨t363, t364⟩, A30, H⟩ := H
 replace H : ((wide_Mul.f a0_0 a1).bind fun bt365 => ((bits_Add64.f t363 bt365.2 0).bind fun bt369 => (some (IntKind.u64.wrap (bt365.1 + bt369.2), bt369.1, t364)))) = some (r1, r2, r3) := H
 have A3 := zA A30
 clear A30
 replace H := Option.bind_eq_some_iff.mp H
 obtain ⟨⟨t365, t366⟩, A40, H⟩ := H
 replace H : ((bits_Add64.f t363 t366 0).bind fun bt369 => (some (IntKind.u64.wrap (t365 + bt369.2), bt369.1, t364))) = some (r1, r2, r3) := H
 have A4 := zA A40
 clear A40
 replace H := Option.bind_eq_some_iff.mp H
 obtain ⟨⟨t369, t370⟩, A50, H⟩ := H
 replace H : (some (IntKind.u64.wrap (t365 + t370), t369, t364)) = some (r1, r2, r3) := H
 have A5 := zA A50
 clear A50
 simp only [Option.some.injEq, Prod.mk.injEq] at H
 obtain ⟨rfl, rfl, rfl⟩ := H
 go_enter Try.func60, Try.ntmps60
 try go_wp2_with (first | ((with_reducible refine zpq (N := 2) rfl ?_); refine zqq ?hg (N := 2) ?hd (cs := #[.int .u64 a0_0, .int .u64 a0_1]) (t := 24) ?hr ?_; (case hd => rfl); (case hg => rfl); (case hr => first | (go_simp; done) | (go_simp; rfl)); intro gb361 hg w6 hbox hb; have n0_ := zA (zeq (by repeat (first | (with_reducible first | exact HB.out | apply zaq | apply zbq | apply zcq) | exact HB.out)) hb); have n1_ := zA (hbox); have n2_ := zA ((by rw [hg]; exact (zfq (by repeat (first | (with_reducible first | exact HB.out | apply zaq | apply zbq | apply zcq) | exact HB.out))) : w.heap.size ≤ gb361)); have n3_ := zA ((by rw [hg]; exact (zfq (by repeat (first | (with_reducible first | exact HB.out | apply zaq | apply zbq | apply zcq) | exact HB.out))) : w.heap.size ≤ gb361)); clear HB; have HB := n0_; have BK361 := n1_; have GW361 := n2_; have GE361 := n3_; clear n0_ n1_ n2_ n3_; clear hb hbox hg) | ((with_reducible refine zpq (N := 4) rfl ?_); refine zqq ?hg (N := 4) ?hd (cs := #[.int .u64 0, .int .u64 0, .int .u64 0]) (t := 69) ?hr ?_; (case hd => rfl); (case hg => rfl); (case hr => first | (go_simp; done) | (go_simp; rfl)); intro gb362 hg w7 hbox hb; have n0_ := zA (zlq (g := gb361) (o := .cells #[.int .u64 a0_0, .int .u64 a0_1] 24 (0, 0)) (by (with_reducible repeat (first | refine zgq ?_ _ | refine zhq ?_ | refine ziq ?_ _)); exact BK361.out) hb); have n1_ := zA (zeq (by repeat (first | (with_reducible first | exact HB.out | apply zaq | apply zbq | apply zcq | refine zdq ?_ GE361.out) | exact HB.out)) hb); have n2_ := zA (hbox); have n3_ := zA ((by rw [hg]; exact (zfq (by repeat (first | (with_reducible first | exact HB.out | apply zaq | apply zbq | apply zcq | refine zdq ?_ GE361.out) | exact HB.out))) : w.heap.size ≤ gb362)); have n4_ := zA ((by rw [hg]; exact (zfq (by repeat (first | (with_reducible first | exact HB.out | apply zaq | apply zbq | apply zcq | refine zdq ?_ GE361.out) | exact HB.out))) : w.heap.size ≤ gb362)); have n5_ := zA ((by rw [hg]; exact Nat.ne_of_lt (blk_lt (g := gb361) (o := .cells #[.int .u64 a0_0, .int .u64 a0_1] 24 (0, 0)) (by (with_reducible repeat (first | refine zgq ?_ _ | refine zhq ?_ | refine ziq ?_ _)); exact BK361.out)) : gb361 ≠ gb362)); have n6_ := zA ((by rw [hg]; exact Nat.ne_of_gt (blk_lt (g := gb361) (o := .cells #[.int .u64 a0_0, .int .u64 a0_1] 24 (0, 0)) (by (with_reducible repeat (first | refine zgq ?_ _ | refine zhq ?_ | refine ziq ?_ _)); exact BK361.out)) : gb362 ≠ gb361)); clear BK361; clear HB; have BK361 := n0_; have HB := n1_; have BK362 := n2_; have GW362 := n3_; have GE362 := n4_; have NB361_362 := n5_; have NB362_361 := n6_; clear n0_ n1_ n2_ n3_ n4_ n5_ n6_; clear hb hbox hg))
 have n0_ := zA (zhq BK361.out)
 have n1_ := zA (zhq BK362.out)
 have n2_ := zA (zcq HB.out)
 clear BK361
 clear BK362
 clear HB
 have BK361 := n0_
 have BK362 := n1_
 have HB := n2_
 clear n0_ n1_ n2_
 refine start_ (n := 12) (S := fun w' => w'.cell? ⟨gb361, 0, none⟩ = some (.int .u64 a0_0) ∧ w'.cell? ⟨gb361, 1, none⟩ = some (.int .u64 a0_1)) (ds := []) #[false, false, false, false, false, false, false, false, false, false, false, false] (by kernel_rfl) rfl rfl ⟨(zmq BK361.out 0).trans rfl, (zmq BK361.out 1).trans rfl⟩ (fun hHeld => ?_); refine with_tabW wide_Times.tab1 wide_Times.bits1 (fun HT_ HW_ => ?_)
 generalize w7.drew = w8 at BK361 BK362 HB hHeld ⊢
 refine pure_ (i := 0) (N := some 9) (v := ?_) (a' := ?_) #[true, false, false, false, false, false, false, false, false, false, false, false] rfl rfl (any_of HT_.out (by kernel_rfl)) (fun _ _ _ h => h) (Or.inl ⟨by rfl, ?_⟩) ?_ ?_
 rotate_left
 ·
  intro w'
  go_simp
  with_reducible rfl
 rotate_left
 ·
  simp only [Act.put, List.setIfInBounds_toArray, List.set_cons_zero, List.set_cons_succ, i64_w, i32_w]
  rfl
 refine pure_ (i := 2) (N := some 11) (v := ?_) (a' := ?_) #[true, false, true, false, false, false, false, false, false, false, false, false] rfl rfl (any_of HT_.out (by kernel_rfl)) (fun _ _ _ h => h) (Or.inl ⟨by rfl, ?_⟩) ?_ ?_
 rotate_left
 ·
  intro w'
  go_simp
  with_reducible rfl
 rotate_left
 ·
  simp only [Act.put, List.setIfInBounds_toArray, List.set_cons_zero, List.set_cons_succ, i64_w, i32_w]
  rfl
 refine pure_ (i := 4) (N := some 13) (v := ?_) (a' := ?_) #[true, false, true, false, true, false, false, false, false, false, false, false] rfl rfl (any_of HT_.out (by kernel_rfl)) (fun _ _ _ h => h) (Or.inl ⟨by rfl, ?_⟩) ?_ ?_
 rotate_left
 ·
  intro w'
  go_simp
  with_reducible rfl
 rotate_left
 ·
  simp only [Act.put, List.setIfInBounds_toArray, List.set_cons_zero, List.set_cons_succ, i64_w, i32_w]
  rfl
 refine pure_ (i := 6) (N := some 15) (v := ?_) (a' := ?_) #[true, false, true, false, true, false, true, false, false, false, false, false] rfl rfl (any_of HT_.out (by kernel_rfl)) (fun _ _ _ h => h) (Or.inl ⟨by rfl, ?_⟩) ?_ ?_
 rotate_left
 ·
  intro w'
  go_simp
  with_reducible rfl
 rotate_left
 ·
  simp only [Act.put, List.setIfInBounds_toArray, List.set_cons_zero, List.set_cons_succ, i64_w, i32_w]
  rfl
 refine take_ (i := 1) (N := some 10) (v := ?_) (a' := ?_) #[true, true, true, false, true, false, true, false, false, false, false, false] rfl rfl (take_ofW HT_.out HW_.out (by kernel_rfl)) (fun _ _ _ h => h) (Or.inl ⟨by rfl, ?_⟩) hHeld ?_ ?_
 rotate_left
 ·
  rintro w' ⟨s0, s1⟩
  go_simp
  with_reducible rfl
 rotate_left
 ·
  simp only [Act.put, List.setIfInBounds_toArray, List.set_cons_zero, List.set_cons_succ, i64_w, i32_w]
  rfl
 refine take_ (i := 5) (N := some 14) (v := ?_) (a' := ?_) #[true, true, true, false, true, true, true, false, false, false, false, false] rfl rfl (take_ofW HT_.out HW_.out (by kernel_rfl)) (fun _ _ _ h => h) (Or.inl ⟨by rfl, ?_⟩) hHeld ?_ ?_
 rotate_left
 ·
  rintro w' ⟨s0, s1⟩
  go_simp
  with_reducible rfl
 rotate_left
 ·
  simp only [Act.put, List.setIfInBounds_toArray, List.set_cons_zero, List.set_cons_succ, i64_w, i32_w]
  rfl
 refine join_ (σ := Nat × Nat) 2 #[true, true, true, true, true, true, true, true, true, true, false, false] (fun s_ => [(12, .agg #[.int .u64 t363, .int .u64 t364]), (16, .agg #[.int .u64 t365, .int .u64 t366]), (5, .pointer (some ⟨s_.1, 0, none⟩)), (6, .pointer (some ⟨s_.2, 0, none⟩))]) (fun s_ w' => (w'.cell? ⟨gb361, 0, none⟩ = some (.int .u64 a0_0) ∧ w'.cell? ⟨gb361, 1, none⟩ = some (.int .u64 a0_1)) ∧ (w'.heap[gb361]? = some (.cells #[.int .u64 a0_0, .int .u64 a0_1] 24 (0, 0))) ∧ (w'.heap[gb362]? = some (.cells #[.int .u64 0, .int .u64 0, .int .u64 0] 69 (0, 0))) ∧ (w'.heap[s_.1]? = some (.cells #[.int .u64 0, .int .u64 0] 24 (0, 0))) ∧ (w'.heap[s_.2]? = some (.cells #[.int .u64 0, .int .u64 0] 24 (0, 0))) ∧ (w.heap.size ≤ s_.1) ∧ (w.heap.size ≤ s_.1) ∧ (gb361 ≠ s_.1) ∧ (s_.1 ≠ gb361) ∧ (gb362 ≠ s_.1) ∧ (s_.1 ≠ gb362) ∧ (s_.2 ≠ s_.1) ∧ (s_.1 ≠ s_.2) ∧ (w.heap.size ≤ s_.2) ∧ (w.heap.size ≤ s_.2) ∧ (gb361 ≠ s_.2) ∧ (s_.2 ≠ gb361) ∧ (gb362 ≠ s_.2) ∧ (s_.2 ≠ gb362) ∧ (Below w.heap.size w w')) ?_ ?_
 rotate_left
 ·
  intro hJ3_7_8_9
  refine join_ (σ := Nat) 3 #[true, true, true, true, true, true, true, true, true, false, false, false] (fun s_ => [(12, .agg #[.int .u64 t363, .int .u64 t364]), (16, .agg #[.int .u64 t365, .int .u64 t366]), (5, .pointer (some ⟨s_, 0, none⟩))]) (fun s_ w' => (w'.cell? ⟨gb361, 0, none⟩ = some (.int .u64 a0_0) ∧ w'.cell? ⟨gb361, 1, none⟩ = some (.int .u64 a0_1)) ∧ (w'.heap[gb361]? = some (.cells #[.int .u64 a0_0, .int .u64 a0_1] 24 (0, 0))) ∧ (w'.heap[gb362]? = some (.cells #[.int .u64 0, .int .u64 0, .int .u64 0] 69 (0, 0))) ∧ (w'.heap[s_]? = some (.cells #[.int .u64 0, .int .u64 0] 24 (0, 0))) ∧ (w.heap.size ≤ s_) ∧ (w.heap.size ≤ s_) ∧ (gb361 ≠ s_) ∧ (s_ ≠ gb361) ∧ (gb362 ≠ s_) ∧ (s_ ≠ gb362) ∧ (Below w.heap.size w w')) ?_ ?_
  rotate_left
  ·
   intro hJ3_7_8
   refine join_ (σ := Nat) 3 #[true, true, true, true, true, true, true, true, false, true, false, false] (fun s_ => [(12, .agg #[.int .u64 t363, .int .u64 t364]), (16, .agg #[.int .u64 t365, .int .u64 t366]), (6, .pointer (some ⟨s_, 0, none⟩))]) (fun s_ w' => (w'.cell? ⟨gb361, 0, none⟩ = some (.int .u64 a0_0) ∧ w'.cell? ⟨gb361, 1, none⟩ = some (.int .u64 a0_1)) ∧ (w'.heap[gb361]? = some (.cells #[.int .u64 a0_0, .int .u64 a0_1] 24 (0, 0))) ∧ (w'.heap[gb362]? = some (.cells #[.int .u64 0, .int .u64 0, .int .u64 0] 69 (0, 0))) ∧ (w'.heap[s_]? = some (.cells #[.int .u64 0, .int .u64 0] 24 (0, 0))) ∧ (w.heap.size ≤ s_) ∧ (w.heap.size ≤ s_) ∧ (gb361 ≠ s_) ∧ (s_ ≠ gb361) ∧ (gb362 ≠ s_) ∧ (s_ ≠ gb362) ∧ (Below w.heap.size w w')) ?_ ?_
   rotate_left
   ·
    intro hJ3_7_9
    refine join_ (σ := Nat × Nat) 3 #[true, true, true, true, true, true, true, false, true, true, false, false] (fun s_ => [(12, .agg #[.int .u64 t363, .int .u64 t364]), (5, .pointer (some ⟨s_.1, 0, none⟩)), (6, .pointer (some ⟨s_.2, 0, none⟩))]) (fun s_ w' => (w'.cell? ⟨gb361, 0, none⟩ = some (.int .u64 a0_0) ∧ w'.cell? ⟨gb361, 1, none⟩ = some (.int .u64 a0_1)) ∧ (w'.heap[gb361]? = some (.cells #[.int .u64 a0_0, .int .u64 a0_1] 24 (0, 0))) ∧ (w'.heap[gb362]? = some (.cells #[.int .u64 0, .int .u64 0, .int .u64 0] 69 (0, 0))) ∧ (w'.heap[s_.1]? = some (.cells #[.int .u64 0, .int .u64 0] 24 (0, 0))) ∧ (w'.heap[s_.2]? = some (.cells #[.int .u64 0, .int .u64 0] 24 (0, 0))) ∧ (w.heap.size ≤ s_.1) ∧ (w.heap.size ≤ s_.1) ∧ (gb361 ≠ s_.1) ∧ (s_.1 ≠ gb361) ∧ (gb362 ≠ s_.1) ∧ (s_.1 ≠ gb362) ∧ (s_.2 ≠ s_.1) ∧ (s_.1 ≠ s_.2) ∧ (w.heap.size ≤ s_.2) ∧ (w.heap.size ≤ s_.2) ∧ (gb361 ≠ s_.2) ∧ (s_.2 ≠ gb361) ∧ (gb362 ≠ s_.2) ∧ (s_.2 ≠ gb362) ∧ (Below w.heap.size w w')) ?_ ?_
    rotate_left
    ·
     intro hJ3_8_9
     refine join_ (σ := Unit) 4 #[true, true, true, true, true, true, true, true, false, false, false, false] (fun s_ => [(12, .agg #[.int .u64 t363, .int .u64 t364]), (16, .agg #[.int .u64 t365, .int .u64 t366])]) (fun s_ w' => (w'.cell? ⟨gb361, 0, none⟩ = some (.int .u64 a0_0) ∧ w'.cell? ⟨gb361, 1, none⟩ = some (.int .u64 a0_1)) ∧ (w'.heap[gb361]? = some (.cells #[.int .u64 a0_0, .int .u64 a0_1] 24 (0, 0))) ∧ (w'.heap[gb362]? = some (.cells #[.int .u64 0, .int .u64 0, .int .u64 0] 69 (0, 0))) ∧ (Below w.heap.size w w')) ?_ ?_
     rotate_left
     ·
      intro hJ3_7
      refine join_ (σ := Nat) 4 #[true, true, true, true, true, true, true, false, true, false, false, false] (fun s_ => [(12, .agg #[.int .u64 t363, .int .u64 t364]), (5, .pointer (some ⟨s_, 0, none⟩))]) (fun s_ w' => (w'.cell? ⟨gb361, 0, none⟩ = some (.int .u64 a0_0) ∧ w'.cell? ⟨gb361, 1, none⟩ = some (.int .u64 a0_1)) ∧ (w'.heap[gb361]? = some (.cells #[.int .u64 a0_0, .int .u64 a0_1] 24 (0, 0))) ∧ (w'.heap[gb362]? = some (.cells #[.int .u64 0, .int .u64 0, .int .u64 0] 69 (0, 0))) ∧ (w'.heap[s_]? = some (.cells #[.int .u64 0, .int .u64 0] 24 (0, 0))) ∧ (w.heap.size ≤ s_) ∧ (w.heap.size ≤ s_) ∧ (gb361 ≠ s_) ∧ (s_ ≠ gb361) ∧ (gb362 ≠ s_) ∧ (s_ ≠ gb362) ∧ (Below w.heap.size w w')) ?_ ?_
      rotate_left
      ·
       intro hJ3_8
       refine join_ (σ := Nat) 4 #[true, true, true, true, true, true, true, false, false, true, false, false] (fun s_ => [(12, .agg #[.int .u64 t363, .int .u64 t364]), (6, .pointer (some ⟨s_, 0, none⟩))]) (fun s_ w' => (w'.cell? ⟨gb361, 0, none⟩ = some (.int .u64 a0_0) ∧ w'.cell? ⟨gb361, 1, none⟩ = some (.int .u64 a0_1)) ∧ (w'.heap[gb361]? = some (.cells #[.int .u64 a0_0, .int .u64 a0_1] 24 (0, 0))) ∧ (w'.heap[gb362]? = some (.cells #[.int .u64 0, .int .u64 0, .int .u64 0] 69 (0, 0))) ∧ (w'.heap[s_]? = some (.cells #[.int .u64 0, .int .u64 0] 24 (0, 0))) ∧ (w.heap.size ≤ s_) ∧ (w.heap.size ≤ s_) ∧ (gb361 ≠ s_) ∧ (s_ ≠ gb361) ∧ (gb362 ≠ s_) ∧ (s_ ≠ gb362) ∧ (Below w.heap.size w w')) ?_ ?_
       rotate_left
       ·
        intro hJ3_9
        refine join_ (σ := Nat × Nat) 4 #[true, true, true, false, true, true, true, false, true, true, false, false] (fun s_ => [(5, .pointer (some ⟨s_.1, 0, none⟩)), (6, .pointer (some ⟨s_.2, 0, none⟩))]) (fun s_ w' => (w'.cell? ⟨gb361, 0, none⟩ = some (.int .u64 a0_0) ∧ w'.cell? ⟨gb361, 1, none⟩ = some (.int .u64 a0_1)) ∧ (w'.heap[gb361]? = some (.cells #[.int .u64 a0_0, .int .u64 a0_1] 24 (0, 0))) ∧ (w'.heap[gb362]? = some (.cells #[.int .u64 0, .int .u64 0, .int .u64 0] 69 (0, 0))) ∧ (w'.heap[s_.1]? = some (.cells #[.int .u64 0, .int .u64 0] 24 (0, 0))) ∧ (w'.heap[s_.2]? = some (.cells #[.int .u64 0, .int .u64 0] 24 (0, 0))) ∧ (w.heap.size ≤ s_.1) ∧ (w.heap.size ≤ s_.1) ∧ (gb361 ≠ s_.1) ∧ (s_.1 ≠ gb361) ∧ (gb362 ≠ s_.1) ∧ (s_.1 ≠ gb362) ∧ (s_.2 ≠ s_.1) ∧ (s_.1 ≠ s_.2) ∧ (w.heap.size ≤ s_.2) ∧ (w.heap.size ≤ s_.2) ∧ (gb361 ≠ s_.2) ∧ (s_.2 ≠ gb361) ∧ (gb362 ≠ s_.2) ∧ (s_.2 ≠ gb362) ∧ (Below w.heap.size w w')) ?_ ?_
        rotate_left
        ·
         intro hJ8_9
         refine join_ (σ := Unit) 5 #[true, true, true, true, true, true, true, false, false, false, false, false] (fun s_ => [(12, .agg #[.int .u64 t363, .int .u64 t364])]) (fun s_ w' => (w'.cell? ⟨gb361, 0, none⟩ = some (.int .u64 a0_0) ∧ w'.cell? ⟨gb361, 1, none⟩ = some (.int .u64 a0_1)) ∧ (w'.heap[gb361]? = some (.cells #[.int .u64 a0_0, .int .u64 a0_1] 24 (0, 0))) ∧ (w'.heap[gb362]? = some (.cells #[.int .u64 0, .int .u64 0, .int .u64 0] 69 (0, 0))) ∧ (Below w.heap.size w w')) ?_ ?_
         rotate_left
         ·
          intro hJ3
          refine join_ (σ := Nat) 5 #[true, true, true, false, true, true, true, false, true, false, false, false] (fun s_ => [(5, .pointer (some ⟨s_, 0, none⟩))]) (fun s_ w' => (w'.cell? ⟨gb361, 0, none⟩ = some (.int .u64 a0_0) ∧ w'.cell? ⟨gb361, 1, none⟩ = some (.int .u64 a0_1)) ∧ (w'.heap[gb361]? = some (.cells #[.int .u64 a0_0, .int .u64 a0_1] 24 (0, 0))) ∧ (w'.heap[gb362]? = some (.cells #[.int .u64 0, .int .u64 0, .int .u64 0] 69 (0, 0))) ∧ (w'.heap[s_]? = some (.cells #[.int .u64 0, .int .u64 0] 24 (0, 0))) ∧ (w.heap.size ≤ s_) ∧ (w.heap.size ≤ s_) ∧ (gb361 ≠ s_) ∧ (s_ ≠ gb361) ∧ (gb362 ≠ s_) ∧ (s_ ≠ gb362) ∧ (Below w.heap.size w w')) ?_ ?_
          rotate_left
          ·
           intro hJ8
           refine join_ (σ := Nat) 5 #[true, true, true, false, true, true, true, false, false, true, false, false] (fun s_ => [(6, .pointer (some ⟨s_, 0, none⟩))]) (fun s_ w' => (w'.cell? ⟨gb361, 0, none⟩ = some (.int .u64 a0_0) ∧ w'.cell? ⟨gb361, 1, none⟩ = some (.int .u64 a0_1)) ∧ (w'.heap[gb361]? = some (.cells #[.int .u64 a0_0, .int .u64 a0_1] 24 (0, 0))) ∧ (w'.heap[gb362]? = some (.cells #[.int .u64 0, .int .u64 0, .int .u64 0] 69 (0, 0))) ∧ (w'.heap[s_]? = some (.cells #[.int .u64 0, .int .u64 0] 24 (0, 0))) ∧ (w.heap.size ≤ s_) ∧ (w.heap.size ≤ s_) ∧ (gb361 ≠ s_) ∧ (s_ ≠ gb361) ∧ (gb362 ≠ s_) ∧ (s_ ≠ gb362) ∧ (Below w.heap.size w w')) ?_ ?_
           rotate_left
           ·
            intro hJ9
            refine three_ (i := 3) (j := 8) (k := 9) (Ni := some 12) (Nj := some 5) (Nk := some 6) #[true, true, true, true, true, true, true, false, false, false, false, false] #[true, true, true, false, true, true, true, false, true, false, false, false] #[true, true, true, false, true, true, true, false, false, true, false, false] rfl rfl rfl rfl rfl rfl (three_of HT_.out (by kernel_rfl)) (by decide) (by decide) (by decide) (fun K hK => ?_) (fun K hK => ?_) (fun K hK => ?_)
            ·
             skip
             refine goes_ Try.func46 (by kernel_rfl) rfl #[.int .u64 a0_1, .int .u64 a1] (by rfl) rfl rfl (by (try simp only [List.map_toArray, List.map_cons, List.map_nil]); first | done | rfl | (simp only [List.length_drop, List.length_take]; rfl)) ?_
             with_reducible refine (wide_Mul.calls a0_1 a1 t363 t364 _ A3.out).mono ?_
             rintro e w9 ⟨rfl, hb⟩
             refine ⟨_, rfl, ?_⟩
             have n0_ := zA (zlq (g := gb361) (o := .cells #[.int .u64 a0_0, .int .u64 a0_1] 24 (0, 0)) (by (with_reducible repeat (first | refine zgq ?_ _ | refine zhq ?_ | refine ziq ?_ _)); exact BK361.out) hb)
             have n1_ := zA (zlq (g := gb362) (o := .cells #[.int .u64 0, .int .u64 0, .int .u64 0] 69 (0, 0)) (by (with_reducible repeat (first | refine zgq ?_ _ | refine zhq ?_ | refine ziq ?_ _)); exact BK362.out) hb)
             have n2_ := zA (zeq (by repeat (first | (with_reducible first | exact HB.out | apply zaq | apply zbq | apply zcq | refine zdq ?_ GE361.out | refine zdq ?_ GE362.out) | exact HB.out)) hb)
             clear BK361
             clear BK362
             clear HB
             have BK361 := n0_
             have BK362 := n1_
             have HB := n2_
             clear n0_ n1_ n2_
             (try clear hb)
             (try clear hb2)
             (try clear hk)
             (try clear hi)
             refine hK.out _ _ ⟨(zmq BK361.out 0).trans rfl, (zmq BK361.out 1).trans rfl⟩ (fun hHeld => ?_)
             clear hK K
             refine norm_ (a' := ?_) ?_ ?_
             rotate_left
             ·
              show Act.put _ (some 12) _ = _
              simp only [Act.put, List.setIfInBounds_toArray, List.set_cons_zero, List.set_cons_succ, i64_w, i32_w]
              rfl
             exact norm_ (by first | (simp only [putAll, Act.put, List.setIfInBounds_toArray, List.set_cons_zero, List.set_cons_succ]; done) | (simp only [putAll, Act.put, List.setIfInBounds_toArray, List.set_cons_zero, List.set_cons_succ]; rfl)) (hJ3 () _ ⟨hHeld, (by (with_reducible repeat (first | refine zgq ?_ _ | refine zhq ?_ | refine ziq ?_ _)); exact BK361.out), (by (with_reducible repeat (first | refine zgq ?_ _ | refine zhq ?_ | refine ziq ?_ _)); exact BK362.out), (by repeat (first | (with_reducible first | exact HB.out | apply zaq | apply zbq | apply zcq | refine zdq ?_ GE361.out | refine zdq ?_ GE362.out) | exact HB.out))⟩)
            ·
             skip
             refine box_step ?hg (N := 5) ?hd (cs := #[.int .u64 0, .int .u64 0]) (t := 24) ?hr ?_; (case hd => rfl); (case hg => rfl); (case hr => first | (go_simp; done) | (go_simp; rfl))
             intro gb367 hg w9 hbox hb
             have n0_ := zA (zlq (g := gb361) (o := .cells #[.int .u64 a0_0, .int .u64 a0_1] 24 (0, 0)) (by (with_reducible repeat (first | refine zgq ?_ _ | refine zhq ?_ | refine ziq ?_ _)); exact BK361.out) hb)
             have n1_ := zA (zlq (g := gb362) (o := .cells #[.int .u64 0, .int .u64 0, .int .u64 0] 69 (0, 0)) (by (with_reducible repeat (first | refine zgq ?_ _ | refine zhq ?_ | refine ziq ?_ _)); exact BK362.out) hb)
             have n2_ := zA (zeq (by repeat (first | (with_reducible first | exact HB.out | apply zaq | apply zbq | apply zcq | refine zdq ?_ GE361.out | refine zdq ?_ GE362.out) | exact HB.out)) hb)
             have n3_ := zA (hbox)
             have n4_ := zA ((by rw [hg]; exact (zfq (by repeat (first | (with_reducible first | exact HB.out | apply zaq | apply zbq | apply zcq | refine zdq ?_ GE361.out | refine zdq ?_ GE362.out) | exact HB.out))) : w.heap.size ≤ gb367))
             have n5_ := zA ((by rw [hg]; exact (zfq (by repeat (first | (with_reducible first | exact HB.out | apply zaq | apply zbq | apply zcq | refine zdq ?_ GE361.out | refine zdq ?_ GE362.out) | exact HB.out))) : w.heap.size ≤ gb367))
             have n6_ := zA ((by rw [hg]; exact Nat.ne_of_lt (blk_lt (g := gb361) (o := .cells #[.int .u64 a0_0, .int .u64 a0_1] 24 (0, 0)) (by (with_reducible repeat (first | refine zgq ?_ _ | refine zhq ?_ | refine ziq ?_ _)); exact BK361.out)) : gb361 ≠ gb367))
             have n7_ := zA ((by rw [hg]; exact Nat.ne_of_gt (blk_lt (g := gb361) (o := .cells #[.int .u64 a0_0, .int .u64 a0_1] 24 (0, 0)) (by (with_reducible repeat (first | refine zgq ?_ _ | refine zhq ?_ | refine ziq ?_ _)); exact BK361.out)) : gb367 ≠ gb361))
             have n8_ := zA ((by rw [hg]; exact Nat.ne_of_lt (blk_lt (g := gb362) (o := .cells #[.int .u64 0, .int .u64 0, .int .u64 0] 69 (0, 0)) (by (with_reducible repeat (first | refine zgq ?_ _ | refine zhq ?_ | refine ziq ?_ _)); exact BK362.out)) : gb362 ≠ gb367))
             have n9_ := zA ((by rw [hg]; exact Nat.ne_of_gt (blk_lt (g := gb362) (o := .cells #[.int .u64 0, .int .u64 0, .int .u64 0] 69 (0, 0)) (by (with_reducible repeat (first | refine zgq ?_ _ | refine zhq ?_ | refine ziq ?_ _)); exact BK362.out)) : gb367 ≠ gb362))
             clear BK361
             clear BK362
             clear HB
             have BK361 := n0_
             have BK362 := n1_
             have HB := n2_
             have BK367 := n3_
             have GW367 := n4_
             have GE367 := n5_
             have NB361_367 := n6_
             have NB367_361 := n7_
             have NB362_367 := n8_
             have NB367_362 := n9_
             clear n0_ n1_ n2_ n3_ n4_ n5_ n6_ n7_ n8_ n9_
             clear hb hbox hg
             refine hK.out _ _ ⟨(zmq BK361.out 0).trans rfl, (zmq BK361.out 1).trans rfl⟩ (fun hHeld => ?_)
             clear hK K
             refine norm_ (a' := ?_) ?_ ?_
             rotate_left
             ·
              show Act.put _ (some 5) _ = _
              simp only [Act.put, List.setIfInBounds_toArray, List.set_cons_zero, List.set_cons_succ, i64_w, i32_w]
              rfl
             exact norm_ (by first | (simp only [putAll, Act.put, List.setIfInBounds_toArray, List.set_cons_zero, List.set_cons_succ]; done) | (simp only [putAll, Act.put, List.setIfInBounds_toArray, List.set_cons_zero, List.set_cons_succ]; rfl)) (hJ8 (gb367) _ ⟨hHeld, (by (with_reducible repeat (first | refine zgq ?_ _ | refine zhq ?_ | refine ziq ?_ _)); exact BK361.out), (by (with_reducible repeat (first | refine zgq ?_ _ | refine zhq ?_ | refine ziq ?_ _)); exact BK362.out), (by (with_reducible repeat (first | refine zgq ?_ _ | refine zhq ?_ | refine ziq ?_ _)); exact BK367.out), GW367.out, GE367.out, NB361_367.out, NB367_361.out, NB362_367.out, NB367_362.out, (by repeat (first | (with_reducible first | exact HB.out | apply zaq | apply zbq | apply zcq | refine zdq ?_ GE361.out | refine zdq ?_ GE362.out | refine zdq ?_ GE367.out) | exact HB.out))⟩)
            ·
             skip
             refine box_step ?hg (N := 6) ?hd (cs := #[.int .u64 0, .int .u64 0]) (t := 24) ?hr ?_; (case hd => rfl); (case hg => rfl); (case hr => first | (go_simp; done) | (go_simp; rfl))
             intro gb368 hg w9 hbox hb
             have n0_ := zA (zlq (g := gb361) (o := .cells #[.int .u64 a0_0, .int .u64 a0_1] 24 (0, 0)) (by (with_reducible repeat (first | refine zgq ?_ _ | refine zhq ?_ | refine ziq ?_ _)); exact BK361.out) hb)
             have n1_ := zA (zlq (g := gb362) (o := .cells #[.int .u64 0, .int .u64 0, .int .u64 0] 69 (0, 0)) (by (with_reducible repeat (first | refine zgq ?_ _ | refine zhq ?_ | refine ziq ?_ _)); exact BK362.out) hb)
             have n2_ := zA (zeq (by repeat (first | (with_reducible first | exact HB.out | apply zaq | apply zbq | apply zcq | refine zdq ?_ GE361.out | refine zdq ?_ GE362.out) | exact HB.out)) hb)
             have n3_ := zA (hbox)
             have n4_ := zA ((by rw [hg]; exact (zfq (by repeat (first | (with_reducible first | exact HB.out | apply zaq | apply zbq | apply zcq | refine zdq ?_ GE361.out | refine zdq ?_ GE362.out) | exact HB.out))) : w.heap.size ≤ gb368))
             have n5_ := zA ((by rw [hg]; exact (zfq (by repeat (first | (with_reducible first | exact HB.out | apply zaq | apply zbq | apply zcq | refine zdq ?_ GE361.out | refine zdq ?_ GE362.out) | exact HB.out))) : w.heap.size ≤ gb368))
             have n6_ := zA ((by rw [hg]; exact Nat.ne_of_lt (blk_lt (g := gb361) (o := .cells #[.int .u64 a0_0, .int .u64 a0_1] 24 (0, 0)) (by (with_reducible repeat (first | refine zgq ?_ _ | refine zhq ?_ | refine ziq ?_ _)); exact BK361.out)) : gb361 ≠ gb368))
             have n7_ := zA ((by rw [hg]; exact Nat.ne_of_gt (blk_lt (g := gb361) (o := .cells #[.int .u64 a0_0, .int .u64 a0_1] 24 (0, 0)) (by (with_reducible repeat (first | refine zgq ?_ _ | refine zhq ?_ | refine ziq ?_ _)); exact BK361.out)) : gb368 ≠ gb361))
             have n8_ := zA ((by rw [hg]; exact Nat.ne_of_lt (blk_lt (g := gb362) (o := .cells #[.int .u64 0, .int .u64 0, .int .u64 0] 69 (0, 0)) (by (with_reducible repeat (first | refine zgq ?_ _ | refine zhq ?_ | refine ziq ?_ _)); exact BK362.out)) : gb362 ≠ gb368))
             have n9_ := zA ((by rw [hg]; exact Nat.ne_of_gt (blk_lt (g := gb362) (o := .cells #[.int .u64 0, .int .u64 0, .int .u64 0] 69 (0, 0)) (by (with_reducible repeat (first | refine zgq ?_ _ | refine zhq ?_ | refine ziq ?_ _)); exact BK362.out)) : gb368 ≠ gb362))
             clear BK361
             clear BK362
             clear HB
             have BK361 := n0_
             have BK362 := n1_
             have HB := n2_
             have BK368 := n3_
             have GW368 := n4_
             have GE368 := n5_
             have NB361_368 := n6_
             have NB368_361 := n7_
             have NB362_368 := n8_
             have NB368_362 := n9_
             clear n0_ n1_ n2_ n3_ n4_ n5_ n6_ n7_ n8_ n9_
             clear hb hbox hg
             refine hK.out _ _ ⟨(zmq BK361.out 0).trans rfl, (zmq BK361.out 1).trans rfl⟩ (fun hHeld => ?_)
             clear hK K
             refine norm_ (a' := ?_) ?_ ?_
             rotate_left
             ·
              show Act.put _ (some 6) _ = _
              simp only [Act.put, List.setIfInBounds_toArray, List.set_cons_zero, List.set_cons_succ, i64_w, i32_w]
              rfl
             exact norm_ (by first | (simp only [putAll, Act.put, List.setIfInBounds_toArray, List.set_cons_zero, List.set_cons_succ]; done) | (simp only [putAll, Act.put, List.setIfInBounds_toArray, List.set_cons_zero, List.set_cons_succ]; rfl)) (hJ9 (gb368) _ ⟨hHeld, (by (with_reducible repeat (first | refine zgq ?_ _ | refine zhq ?_ | refine ziq ?_ _)); exact BK361.out), (by (with_reducible repeat (first | refine zgq ?_ _ | refine zhq ?_ | refine ziq ?_ _)); exact BK362.out), (by (with_reducible repeat (first | refine zgq ?_ _ | refine zhq ?_ | refine ziq ?_ _)); exact BK368.out), GW368.out, GE368.out, NB361_368.out, NB368_361.out, NB362_368.out, NB368_362.out, (by repeat (first | (with_reducible first | exact HB.out | apply zaq | apply zbq | apply zcq | refine zdq ?_ GE361.out | refine zdq ?_ GE362.out | refine zdq ?_ GE368.out) | exact HB.out))⟩)
           ·
            skip
            rintro gb368 w10 ⟨hS_, h0_, h1_, h2_, h3_, h4_, h5_, h6_, h7_, h8_, h9_⟩
            have n0_ : Aside0 (w10.heap[gb361]? = some (.cells #[.int .u64 a0_0, .int .u64 a0_1] 24 (0, 0))) := ⟨h0_⟩
            have n1_ : Aside0 (w10.heap[gb362]? = some (.cells #[.int .u64 0, .int .u64 0, .int .u64 0] 69 (0, 0))) := ⟨h1_⟩
            have n2_ : Aside0 (w10.heap[gb368]? = some (.cells #[.int .u64 0, .int .u64 0] 24 (0, 0))) := ⟨h2_⟩
            have n3_ : Aside0 (w.heap.size ≤ gb368) := ⟨h3_⟩
            have n4_ : Aside0 (w.heap.size ≤ gb368) := ⟨h4_⟩
            have n5_ : Aside0 (gb361 ≠ gb368) := ⟨h5_⟩
            have n6_ : Aside0 (gb368 ≠ gb361) := ⟨h6_⟩
            have n7_ : Aside0 (gb362 ≠ gb368) := ⟨h7_⟩
            have n8_ : Aside0 (gb368 ≠ gb362) := ⟨h8_⟩
            have n9_ : Aside0 (Below w.heap.size w w10) := ⟨h9_⟩
            clear BK361
            clear BK362
            clear HB
            clear h0_ h1_ h2_ h3_ h4_ h5_ h6_ h7_ h8_ h9_
            have BK361 := n0_
            have BK362 := n1_
            have BK368 := n2_
            have GW368 := n3_
            have GE368 := n4_
            have NB361_368 := n5_
            have NB368_361 := n6_
            have NB362_368 := n7_
            have NB368_362 := n8_
            have HB := n9_
            clear n0_ n1_ n2_ n3_ n4_ n5_ n6_ n7_ n8_ n9_
            have hHeld : w10.cell? ⟨gb361, 0, none⟩ = some (.int .u64 a0_0) ∧ w10.cell? ⟨gb361, 1, none⟩ = some (.int .u64 a0_1) := hS_
            refine norm_ (a' := ?_) ?_ ?_
            rotate_left
            ·
             simp only [putAll, Act.put, List.setIfInBounds_toArray, List.set_cons_zero, List.set_cons_succ]
             rfl
            refine two_ (i := 3) (j := 8) (Ni := some 12) (Nj := some 5) #[true, true, true, true, true, true, true, false, false, true, false, false] #[true, true, true, false, true, true, true, false, true, true, false, false] rfl rfl rfl rfl (two_of HT_.out (by kernel_rfl)) (by decide) (by decide) (fun K hK => ?_) (fun K hK => ?_)
            ·
             skip
             refine goes_ Try.func46 (by kernel_rfl) rfl #[.int .u64 a0_1, .int .u64 a1] (by rfl) rfl rfl (by (try simp only [List.map_toArray, List.map_cons, List.map_nil]); first | done | rfl | (simp only [List.length_drop, List.length_take]; rfl)) ?_
             with_reducible refine (wide_Mul.calls a0_1 a1 t363 t364 _ A3.out).mono ?_
             rintro e w11 ⟨rfl, hb⟩
             refine ⟨_, rfl, ?_⟩
             have n0_ := zA (zlq (g := gb361) (o := .cells #[.int .u64 a0_0, .int .u64 a0_1] 24 (0, 0)) (by (with_reducible repeat (first | refine zgq ?_ _ | refine zhq ?_ | refine ziq ?_ _)); exact BK361.out) hb)
             have n1_ := zA (zlq (g := gb362) (o := .cells #[.int .u64 0, .int .u64 0, .int .u64 0] 69 (0, 0)) (by (with_reducible repeat (first | refine zgq ?_ _ | refine zhq ?_ | refine ziq ?_ _)); exact BK362.out) hb)
             have n2_ := zA (zlq (g := gb368) (o := .cells #[.int .u64 0, .int .u64 0] 24 (0, 0)) (by (with_reducible repeat (first | refine zgq ?_ _ | refine zhq ?_ | refine ziq ?_ _)); exact BK368.out) hb)
             have n3_ := zA (zeq (by repeat (first | (with_reducible first | exact HB.out | apply zaq | apply zbq | apply zcq | refine zdq ?_ GE361.out | refine zdq ?_ GE362.out | refine zdq ?_ GE368.out) | exact HB.out)) hb)
             clear BK361
             clear BK362
             clear BK368
             clear HB
             have BK361 := n0_
             have BK362 := n1_
             have BK368 := n2_
             have HB := n3_
             clear n0_ n1_ n2_ n3_
             (try clear hb)
             (try clear hb2)
             (try clear hk)
             (try clear hi)
             refine hK.out _ _ ⟨(zmq BK361.out 0).trans rfl, (zmq BK361.out 1).trans rfl⟩ (fun hHeld => ?_)
             clear hK K
             refine norm_ (a' := ?_) ?_ ?_
             rotate_left
             ·
              show Act.put _ (some 12) _ = _
              simp only [Act.put, List.setIfInBounds_toArray, List.set_cons_zero, List.set_cons_succ, i64_w, i32_w]
              rfl
             exact norm_ (by first | (simp only [putAll, Act.put, List.setIfInBounds_toArray, List.set_cons_zero, List.set_cons_succ]; done) | (simp only [putAll, Act.put, List.setIfInBounds_toArray, List.set_cons_zero, List.set_cons_succ]; rfl)) (hJ3_9 (gb368) _ ⟨hHeld, (by (with_reducible repeat (first | refine zgq ?_ _ | refine zhq ?_ | refine ziq ?_ _)); exact BK361.out), (by (with_reducible repeat (first | refine zgq ?_ _ | refine zhq ?_ | refine ziq ?_ _)); exact BK362.out), (by (with_reducible repeat (first | refine zgq ?_ _ | refine zhq ?_ | refine ziq ?_ _)); exact BK368.out), GW368.out, GE368.out, NB361_368.out, NB368_361.out, NB362_368.out, NB368_362.out, (by repeat (first | (with_reducible first | exact HB.out | apply zaq | apply zbq | apply zcq | refine zdq ?_ GE361.out | refine zdq ?_ GE362.out | refine zdq ?_ GE368.out) | exact HB.out))⟩)
            ·
             skip
             refine box_step ?hg (N := 5) ?hd (cs := #[.int .u64 0, .int .u64 0]) (t := 24) ?hr ?_; (case hd => rfl); (case hg => rfl); (case hr => first | (go_simp; done) | (go_simp; rfl))
             intro gb367 hg w11 hbox hb
             have n0_ := zA (zlq (g := gb361) (o := .cells #[.int .u64 a0_0, .int .u64 a0_1] 24 (0, 0)) (by (with_reducible repeat (first | refine zgq ?_ _ | refine zhq ?_ | refine ziq ?_ _)); exact BK361.out) hb)
             have n1_ := zA (zlq (g := gb362) (o := .cells #[.int .u64 0, .int .u64 0, .int .u64 0] 69 (0, 0)) (by (with_reducible repeat (first | refine zgq ?_ _ | refine zhq ?_ | refine ziq ?_ _)); exact BK362.out) hb)
             have n2_ := zA (zlq (g := gb368) (o := .cells #[.int .u64 0, .int .u64 0] 24 (0, 0)) (by (with_reducible repeat (first | refine zgq ?_ _ | refine zhq ?_ | refine ziq ?_ _)); exact BK368.out) hb)
             have n3_ := zA (zeq (by repeat (first | (with_reducible first | exact HB.out | apply zaq | apply zbq | apply zcq | refine zdq ?_ GE361.out | refine zdq ?_ GE362.out | refine zdq ?_ GE368.out) | exact HB.out)) hb)
             have n4_ := zA (hbox)
             have n5_ := zA ((by rw [hg]; exact (zfq (by repeat (first | (with_reducible first | exact HB.out | apply zaq | apply zbq | apply zcq | refine zdq ?_ GE361.out | refine zdq ?_ GE362.out | refine zdq ?_ GE368.out) | exact HB.out))) : w.heap.size ≤ gb367))
             have n6_ := zA ((by rw [hg]; exact (zfq (by repeat (first | (with_reducible first | exact HB.out | apply zaq | apply zbq | apply zcq | refine zdq ?_ GE361.out | refine zdq ?_ GE362.out | refine zdq ?_ GE368.out) | exact HB.out))) : w.heap.size ≤ gb367))
             have n7_ := zA ((by rw [hg]; exact Nat.ne_of_lt (blk_lt (g := gb361) (o := .cells #[.int .u64 a0_0, .int .u64 a0_1] 24 (0, 0)) (by (with_reducible repeat (first | refine zgq ?_ _ | refine zhq ?_ | refine ziq ?_ _)); exact BK361.out)) : gb361 ≠ gb367))
             have n8_ := zA ((by rw [hg]; exact Nat.ne_of_gt (blk_lt (g := gb361) (o := .cells #[.int .u64 a0_0, .int .u64 a0_1] 24 (0, 0)) (by (with_reducible repeat (first | refine zgq ?_ _ | refine zhq ?_ | refine ziq ?_ _)); exact BK361.out)) : gb367 ≠ gb361))
             have n9_ := zA ((by rw [hg]; exact Nat.ne_of_lt (blk_lt (g := gb362) (o := .cells #[.int .u64 0, .int .u64 0, .int .u64 0] 69 (0, 0)) (by (with_reducible repeat (first | refine zgq ?_ _ | refine zhq ?_ | refine ziq ?_ _)); exact BK362.out)) : gb362 ≠ gb367))
             have n10_ := zA ((by rw [hg]; exact Nat.ne_of_gt (blk_lt (g := gb362) (o := .cells #[.int .u64 0, .int .u64 0, .int .u64 0] 69 (0, 0)) (by (with_reducible repeat (first | refine zgq ?_ _ | refine zhq ?_ | refine ziq ?_ _)); exact BK362.out)) : gb367 ≠ gb362))
             have n11_ := zA ((by rw [hg]; exact Nat.ne_of_lt (blk_lt (g := gb368) (o := .cells #[.int .u64 0, .int .u64 0] 24 (0, 0)) (by (with_reducible repeat (first | refine zgq ?_ _ | refine zhq ?_ | refine ziq ?_ _)); exact BK368.out)) : gb368 ≠ gb367))
             have n12_ := zA ((by rw [hg]; exact Nat.ne_of_gt (blk_lt (g := gb368) (o := .cells #[.int .u64 0, .int .u64 0] 24 (0, 0)) (by (with_reducible repeat (first | refine zgq ?_ _ | refine zhq ?_ | refine ziq ?_ _)); exact BK368.out)) : gb367 ≠ gb368))
             clear BK361
             clear BK362
             clear BK368
             clear HB
             have BK361 := n0_
             have BK362 := n1_
             have BK368 := n2_
             have HB := n3_
             have BK367 := n4_
             have GW367 := n5_
             have GE367 := n6_
             have NB361_367 := n7_
             have NB367_361 := n8_
             have NB362_367 := n9_
             have NB367_362 := n10_
             have NB368_367 := n11_
             have NB367_368 := n12_
             clear n0_ n1_ n2_ n3_ n4_ n5_ n6_ n7_ n8_ n9_ n10_ n11_ n12_
             clear hb hbox hg
             refine hK.out _ _ ⟨(zmq BK361.out 0).trans rfl, (zmq BK361.out 1).trans rfl⟩ (fun hHeld => ?_)
             clear hK K
             refine norm_ (a' := ?_) ?_ ?_
             rotate_left
             ·
              show Act.put _ (some 5) _ = _
              simp only [Act.put, List.setIfInBounds_toArray, List.set_cons_zero, List.set_cons_succ, i64_w, i32_w]
              rfl
             exact norm_ (by first | (simp only [putAll, Act.put, List.setIfInBounds_toArray, List.set_cons_zero, List.set_cons_succ]; done) | (simp only [putAll, Act.put, List.setIfInBounds_toArray, List.set_cons_zero, List.set_cons_succ]; rfl)) (hJ8_9 (gb367, gb368) _ ⟨hHeld, (by (with_reducible repeat (first | refine zgq ?_ _ | refine zhq ?_ | refine ziq ?_ _)); exact BK361.out), (by (with_reducible repeat (first | refine zgq ?_ _ | refine zhq ?_ | refine ziq ?_ _)); exact BK362.out), (by (with_reducible repeat (first | refine zgq ?_ _ | refine zhq ?_ | refine ziq ?_ _)); exact BK367.out), (by (with_reducible repeat (first | refine zgq ?_ _ | refine zhq ?_ | refine ziq ?_ _)); exact BK368.out), GW367.out, GE367.out, NB361_367.out, NB367_361.out, NB362_367.out, NB367_362.out, NB368_367.out, NB367_368.out, GW368.out, GE368.out, NB361_368.out, NB368_361.out, NB362_368.out, NB368_362.out, (by repeat (first | (with_reducible first | exact HB.out | apply zaq | apply zbq | apply zcq | refine zdq ?_ GE361.out | refine zdq ?_ GE362.out | refine zdq ?_ GE368.out | refine zdq ?_ GE367.out) | exact HB.out))⟩)
          ·
           skip
           rintro gb367 w10 ⟨hS_, h0_, h1_, h2_, h3_, h4_, h5_, h6_, h7_, h8_, h9_⟩
           have n0_ : Aside0 (w10.heap[gb361]? = some (.cells #[.int .u64 a0_0, .int .u64 a0_1] 24 (0, 0))) := ⟨h0_⟩
           have n1_ : Aside0 (w10.heap[gb362]? = some (.cells #[.int .u64 0, .int .u64 0, .int .u64 0] 69 (0, 0))) := ⟨h1_⟩
           have n2_ : Aside0 (w10.heap[gb367]? = some (.cells #[.int .u64 0, .int .u64 0] 24 (0, 0))) := ⟨h2_⟩
           have n3_ : Aside0 (w.heap.size ≤ gb367) := ⟨h3_⟩
           have n4_ : Aside0 (w.heap.size ≤ gb367) := ⟨h4_⟩
           have n5_ : Aside0 (gb361 ≠ gb367) := ⟨h5_⟩
           have n6_ : Aside0 (gb367 ≠ gb361) := ⟨h6_⟩
           have n7_ : Aside0 (gb362 ≠ gb367) := ⟨h7_⟩
           have n8_ : Aside0 (gb367 ≠ gb362) := ⟨h8_⟩
           have n9_ : Aside0 (Below w.heap.size w w10) := ⟨h9_⟩
           clear BK361
           clear BK362
           clear HB
           clear h0_ h1_ h2_ h3_ h4_ h5_ h6_ h7_ h8_ h9_
           have BK361 := n0_
           have BK362 := n1_
           have BK367 := n2_
           have GW367 := n3_
           have GE367 := n4_
           have NB361_367 := n5_
           have NB367_361 := n6_
           have NB362_367 := n7_
           have NB367_362 := n8_
           have HB := n9_
           clear n0_ n1_ n2_ n3_ n4_ n5_ n6_ n7_ n8_ n9_
           have hHeld : w10.cell? ⟨gb361, 0, none⟩ = some (.int .u64 a0_0) ∧ w10.cell? ⟨gb361, 1, none⟩ = some (.int .u64 a0_1) := hS_
           refine norm_ (a' := ?_) ?_ ?_
           rotate_left
           ·
            simp only [putAll, Act.put, List.setIfInBounds_toArray, List.set_cons_zero, List.set_cons_succ]
            rfl
           refine two_ (i := 3) (j := 9) (Ni := some 12) (Nj := some 6) #[true, true, true, true, true, true, true, false, true, false, false, false] #[true, true, true, false, true, true, true, false, true, true, false, false] rfl rfl rfl rfl (two_of HT_.out (by kernel_rfl)) (by decide) (by decide) (fun K hK => ?_) (fun K hK => ?_)
           ·
            skip
            refine goes_ Try.func46 (by kernel_rfl) rfl #[.int .u64 a0_1, .int .u64 a1] (by rfl) rfl rfl (by (try simp only [List.map_toArray, List.map_cons, List.map_nil]); first | done | rfl | (simp only [List.length_drop, List.length_take]; rfl)) ?_
            with_reducible refine (wide_Mul.calls a0_1 a1 t363 t364 _ A3.out).mono ?_
            rintro e w11 ⟨rfl, hb⟩
            refine ⟨_, rfl, ?_⟩
            have n0_ := zA (zlq (g := gb361) (o := .cells #[.int .u64 a0_0, .int .u64 a0_1] 24 (0, 0)) (by (with_reducible repeat (first | refine zgq ?_ _ | refine zhq ?_ | refine ziq ?_ _)); exact BK361.out) hb)
            have n1_ := zA (zlq (g := gb362) (o := .cells #[.int .u64 0, .int .u64 0, .int .u64 0] 69 (0, 0)) (by (with_reducible repeat (first | refine zgq ?_ _ | refine zhq ?_ | refine ziq ?_ _)); exact BK362.out) hb)
            have n2_ := zA (zlq (g := gb367) (o := .cells #[.int .u64 0, .int .u64 0] 24 (0, 0)) (by (with_reducible repeat (first | refine zgq ?_ _ | refine zhq ?_ | refine ziq ?_ _)); exact BK367.out) hb)
            have n3_ := zA (zeq (by repeat (first | (with_reducible first | exact HB.out | apply zaq | apply zbq | apply zcq | refine zdq ?_ GE361.out | refine zdq ?_ GE362.out | refine zdq ?_ GE367.out) | exact HB.out)) hb)
            clear BK361
            clear BK362
            clear BK367
            clear HB
            have BK361 := n0_
            have BK362 := n1_
            have BK367 := n2_
            have HB := n3_
            clear n0_ n1_ n2_ n3_
            (try clear hb)
            (try clear hb2)
            (try clear hk)
            (try clear hi)
            refine hK.out _ _ ⟨(zmq BK361.out 0).trans rfl, (zmq BK361.out 1).trans rfl⟩ (fun hHeld => ?_)
            clear hK K
            refine norm_ (a' := ?_) ?_ ?_
            rotate_left
            ·
             show Act.put _ (some 12) _ = _
             simp only [Act.put, List.setIfInBounds_toArray, List.set_cons_zero, List.set_cons_succ, i64_w, i32_w]
             rfl
            exact norm_ (by first | (simp only [putAll, Act.put, List.setIfInBounds_toArray, List.set_cons_zero, List.set_cons_succ]; done) | (simp only [putAll, Act.put, List.setIfInBounds_toArray, List.set_cons_zero, List.set_cons_succ]; rfl)) (hJ3_8 (gb367) _ ⟨hHeld, (by (with_reducible repeat (first | refine zgq ?_ _ | refine zhq ?_ | refine ziq ?_ _)); exact BK361.out), (by (with_reducible repeat (first | refine zgq ?_ _ | refine zhq ?_ | refine ziq ?_ _)); exact BK362.out), (by (with_reducible repeat (first | refine zgq ?_ _ | refine zhq ?_ | refine ziq ?_ _)); exact BK367.out), GW367.out, GE367.out, NB361_367.out, NB367_361.out, NB362_367.out, NB367_362.out, (by repeat (first | (with_reducible first | exact HB.out | apply zaq | apply zbq | apply zcq | refine zdq ?_ GE361.out | refine zdq ?_ GE362.out | refine zdq ?_ GE367.out) | exact HB.out))⟩)
           ·
            skip
            refine box_step ?hg (N := 6) ?hd (cs := #[.int .u64 0, .int .u64 0]) (t := 24) ?hr ?_; (case hd => rfl); (case hg => rfl); (case hr => first | (go_simp; done) | (go_simp; rfl))
            intro gb368 hg w11 hbox hb
            have n0_ := zA (zlq (g := gb361) (o := .cells #[.int .u64 a0_0, .int .u64 a0_1] 24 (0, 0)) (by (with_reducible repeat (first | refine zgq ?_ _ | refine zhq ?_ | refine ziq ?_ _)); exact BK361.out) hb)
            have n1_ := zA (zlq (g := gb362) (o := .cells #[.int .u64 0, .int .u64 0, .int .u64 0] 69 (0, 0)) (by (with_reducible repeat (first | refine zgq ?_ _ | refine zhq ?_ | refine ziq ?_ _)); exact BK362.out) hb)
            have n2_ := zA (zlq (g := gb367) (o := .cells #[.int .u64 0, .int .u64 0] 24 (0, 0)) (by (with_reducible repeat (first | refine zgq ?_ _ | refine zhq ?_ | refine ziq ?_ _)); exact BK367.out) hb)
            have n3_ := zA (zeq (by repeat (first | (with_reducible first | exact HB.out | apply zaq | apply zbq | apply zcq | refine zdq ?_ GE361.out | refine zdq ?_ GE362.out | refine zdq ?_ GE367.out) | exact HB.out)) hb)
            have n4_ := zA (hbox)
            have n5_ := zA ((by rw [hg]; exact (zfq (by repeat (first | (with_reducible first | exact HB.out | apply zaq | apply zbq | apply zcq | refine zdq ?_ GE361.out | refine zdq ?_ GE362.out | refine zdq ?_ GE367.out) | exact HB.out))) : w.heap.size ≤ gb368))
            have n6_ := zA ((by rw [hg]; exact (zfq (by repeat (first | (with_reducible first | exact HB.out | apply zaq | apply zbq | apply zcq | refine zdq ?_ GE361.out | refine zdq ?_ GE362.out | refine zdq ?_ GE367.out) | exact HB.out))) : w.heap.size ≤ gb368))
            have n7_ := zA ((by rw [hg]; exact Nat.ne_of_lt (blk_lt (g := gb361) (o := .cells #[.int .u64 a0_0, .int .u64 a0_1] 24 (0, 0)) (by (with_reducible repeat (first | refine zgq ?_ _ | refine zhq ?_ | refine ziq ?_ _)); exact BK361.out)) : gb361 ≠ gb368))
            have n8_ := zA ((by rw [hg]; exact Nat.ne_of_gt (blk_lt (g := gb361) (o := .cells #[.int .u64 a0_0, .int .u64 a0_1] 24 (0, 0)) (by (with_reducible repeat (first | refine zgq ?_ _ | refine zhq ?_ | refine ziq ?_ _)); exact BK361.out)) : gb368 ≠ gb361))
            have n9_ := zA ((by rw [hg]; exact Nat.ne_of_lt (blk_lt (g := gb362) (o := .cells #[.int .u64 0, .int .u64 0, .int .u64 0] 69 (0, 0)) (by (with_reducible repeat (first | refine zgq ?_ _ | refine zhq ?_ | refine ziq ?_ _)); exact BK362.out)) : gb362 ≠ gb368))
            have n10_ := zA ((by rw [hg]; exact Nat.ne_of_gt (blk_lt (g := gb362) (o := .cells #[.int .u64 0, .int .u64 0, .int .u64 0] 69 (0, 0)) (by (with_reducible repeat (first | refine zgq ?_ _ | refine zhq ?_ | refine ziq ?_ _)); exact BK362.out)) : gb368 ≠ gb362))
            have n11_ := zA ((by rw [hg]; exact Nat.ne_of_lt (blk_lt (g := gb367) (o := .cells #[.int .u64 0, .int .u64 0] 24 (0, 0)) (by (with_reducible repeat (first | refine zgq ?_ _ | refine zhq ?_ | refine ziq ?_ _)); exact BK367.out)) : gb367 ≠ gb368))
            have n12_ := zA ((by rw [hg]; exact Nat.ne_of_gt (blk_lt (g := gb367) (o := .cells #[.int .u64 0, .int .u64 0] 24 (0, 0)) (by (with_reducible repeat (first | refine zgq ?_ _ | refine zhq ?_ | refine ziq ?_ _)); exact BK367.out)) : gb368 ≠ gb367))
            clear BK361
            clear BK362
            clear BK367
            clear HB
            have BK361 := n0_
            have BK362 := n1_
            have BK367 := n2_
            have HB := n3_
            have BK368 := n4_
            have GW368 := n5_
            have GE368 := n6_
            have NB361_368 := n7_
            have NB368_361 := n8_
            have NB362_368 := n9_
            have NB368_362 := n10_
            have NB367_368 := n11_
            have NB368_367 := n12_
            clear n0_ n1_ n2_ n3_ n4_ n5_ n6_ n7_ n8_ n9_ n10_ n11_ n12_
            clear hb hbox hg
            refine hK.out _ _ ⟨(zmq BK361.out 0).trans rfl, (zmq BK361.out 1).trans rfl⟩ (fun hHeld => ?_)
            clear hK K
            refine norm_ (a' := ?_) ?_ ?_
            rotate_left
            ·
             show Act.put _ (some 6) _ = _
             simp only [Act.put, List.setIfInBounds_toArray, List.set_cons_zero, List.set_cons_succ, i64_w, i32_w]
             rfl
            exact norm_ (by first | (simp only [putAll, Act.put, List.setIfInBounds_toArray, List.set_cons_zero, List.set_cons_succ]; done) | (simp only [putAll, Act.put, List.setIfInBounds_toArray, List.set_cons_zero, List.set_cons_succ]; rfl)) (hJ8_9 (gb367, gb368) _ ⟨hHeld, (by (with_reducible repeat (first | refine zgq ?_ _ | refine zhq ?_ | refine ziq ?_ _)); exact BK361.out), (by (with_reducible repeat (first | refine zgq ?_ _ | refine zhq ?_ | refine ziq ?_ _)); exact BK362.out), (by (with_reducible repeat (first | refine zgq ?_ _ | refine zhq ?_ | refine ziq ?_ _)); exact BK367.out), (by (with_reducible repeat (first | refine zgq ?_ _ | refine zhq ?_ | refine ziq ?_ _)); exact BK368.out), GW367.out, GE367.out, NB361_367.out, NB367_361.out, NB362_367.out, NB367_362.out, NB368_367.out, NB367_368.out, GW368.out, GE368.out, NB361_368.out, NB368_361.out, NB362_368.out, NB368_362.out, (by repeat (first | (with_reducible first | exact HB.out | apply zaq | apply zbq | apply zcq | refine zdq ?_ GE361.out | refine zdq ?_ GE362.out | refine zdq ?_ GE367.out | refine zdq ?_ GE368.out) | exact HB.out))⟩)
         ·
          skip
          rintro _ w10 ⟨hS_, h0_, h1_, h2_⟩
          have n0_ : Aside0 (w10.heap[gb361]? = some (.cells #[.int .u64 a0_0, .int .u64 a0_1] 24 (0, 0))) := ⟨h0_⟩
          have n1_ : Aside0 (w10.heap[gb362]? = some (.cells #[.int .u64 0, .int .u64 0, .int .u64 0] 69 (0, 0))) := ⟨h1_⟩
          have n2_ : Aside0 (Below w.heap.size w w10) := ⟨h2_⟩
          clear BK361
          clear BK362
          clear HB
          clear h0_ h1_ h2_
          have BK361 := n0_
          have BK362 := n1_
          have HB := n2_
          clear n0_ n1_ n2_
          have hHeld : w10.cell? ⟨gb361, 0, none⟩ = some (.int .u64 a0_0) ∧ w10.cell? ⟨gb361, 1, none⟩ = some (.int .u64 a0_1) := hS_
          refine norm_ (a' := ?_) ?_ ?_
          rotate_left
          ·
           simp only [putAll, Act.put, List.setIfInBounds_toArray, List.set_cons_zero, List.set_cons_succ]
           rfl
          refine three_ (i := 7) (j := 8) (k := 9) (Ni := some 16) (Nj := some 5) (Nk := some 6) #[true, true, true, true, true, true, true, true, false, false, false, false] #[true, true, true, true, true, true, true, false, true, false, false, false] #[true, true, true, true, true, true, true, false, false, true, false, false] rfl rfl rfl rfl rfl rfl (three_of HT_.out (by kernel_rfl)) (by decide) (by decide) (by decide) (fun K hK => ?_) (fun K hK => ?_) (fun K hK => ?_)
          ·
           skip
           refine goes_ Try.func46 (by kernel_rfl) rfl #[.int .u64 a0_0, .int .u64 a1] (by rfl) rfl rfl (by (try simp only [List.map_toArray, List.map_cons, List.map_nil]); first | done | rfl | (simp only [List.length_drop, List.length_take]; rfl)) ?_
           with_reducible refine (wide_Mul.calls a0_0 a1 t365 t366 _ A4.out).mono ?_
           rintro e w11 ⟨rfl, hb⟩
           refine ⟨_, rfl, ?_⟩
           have n0_ := zA (zlq (g := gb361) (o := .cells #[.int .u64 a0_0, .int .u64 a0_1] 24 (0, 0)) (by (with_reducible repeat (first | refine zgq ?_ _ | refine zhq ?_ | refine ziq ?_ _)); exact BK361.out) hb)
           have n1_ := zA (zlq (g := gb362) (o := .cells #[.int .u64 0, .int .u64 0, .int .u64 0] 69 (0, 0)) (by (with_reducible repeat (first | refine zgq ?_ _ | refine zhq ?_ | refine ziq ?_ _)); exact BK362.out) hb)
           have n2_ := zA (zeq (by repeat (first | (with_reducible first | exact HB.out | apply zaq | apply zbq | apply zcq | refine zdq ?_ GE361.out | refine zdq ?_ GE362.out) | exact HB.out)) hb)
           clear BK361
           clear BK362
           clear HB
           have BK361 := n0_
           have BK362 := n1_
           have HB := n2_
           clear n0_ n1_ n2_
           (try clear hb)
           (try clear hb2)
           (try clear hk)
           (try clear hi)
           refine hK.out _ _ ⟨(zmq BK361.out 0).trans rfl, (zmq BK361.out 1).trans rfl⟩ (fun hHeld => ?_)
           clear hK K
           refine norm_ (a' := ?_) ?_ ?_
           rotate_left
           ·
            show Act.put _ (some 16) _ = _
            simp only [Act.put, List.setIfInBounds_toArray, List.set_cons_zero, List.set_cons_succ, i64_w, i32_w]
            rfl
           exact norm_ (by first | (simp only [putAll, Act.put, List.setIfInBounds_toArray, List.set_cons_zero, List.set_cons_succ]; done) | (simp only [putAll, Act.put, List.setIfInBounds_toArray, List.set_cons_zero, List.set_cons_succ]; rfl)) (hJ3_7 () _ ⟨hHeld, (by (with_reducible repeat (first | refine zgq ?_ _ | refine zhq ?_ | refine ziq ?_ _)); exact BK361.out), (by (with_reducible repeat (first | refine zgq ?_ _ | refine zhq ?_ | refine ziq ?_ _)); exact BK362.out), (by repeat (first | (with_reducible first | exact HB.out | apply zaq | apply zbq | apply zcq | refine zdq ?_ GE361.out | refine zdq ?_ GE362.out) | exact HB.out))⟩)
          ·
           skip
           refine box_step ?hg (N := 5) ?hd (cs := #[.int .u64 0, .int .u64 0]) (t := 24) ?hr ?_; (case hd => rfl); (case hg => rfl); (case hr => first | (go_simp; done) | (go_simp; rfl))
           intro gb367 hg w11 hbox hb
           have n0_ := zA (zlq (g := gb361) (o := .cells #[.int .u64 a0_0, .int .u64 a0_1] 24 (0, 0)) (by (with_reducible repeat (first | refine zgq ?_ _ | refine zhq ?_ | refine ziq ?_ _)); exact BK361.out) hb)
           have n1_ := zA (zlq (g := gb362) (o := .cells #[.int .u64 0, .int .u64 0, .int .u64 0] 69 (0, 0)) (by (with_reducible repeat (first | refine zgq ?_ _ | refine zhq ?_ | refine ziq ?_ _)); exact BK362.out) hb)
           have n2_ := zA (zeq (by repeat (first | (with_reducible first | exact HB.out | apply zaq | apply zbq | apply zcq | refine zdq ?_ GE361.out | refine zdq ?_ GE362.out) | exact HB.out)) hb)
           have n3_ := zA (hbox)
           have n4_ := zA ((by rw [hg]; exact (zfq (by repeat (first | (with_reducible first | exact HB.out | apply zaq | apply zbq | apply zcq | refine zdq ?_ GE361.out | refine zdq ?_ GE362.out) | exact HB.out))) : w.heap.size ≤ gb367))
           have n5_ := zA ((by rw [hg]; exact (zfq (by repeat (first | (with_reducible first | exact HB.out | apply zaq | apply zbq | apply zcq | refine zdq ?_ GE361.out | refine zdq ?_ GE362.out) | exact HB.out))) : w.heap.size ≤ gb367))
           have n6_ := zA ((by rw [hg]; exact Nat.ne_of_lt (blk_lt (g := gb361) (o := .cells #[.int .u64 a0_0, .int .u64 a0_1] 24 (0, 0)) (by (with_reducible repeat (first | refine zgq ?_ _ | refine zhq ?_ | refine ziq ?_ _)); exact BK361.out)) : gb361 ≠ gb367))
           have n7_ := zA ((by rw [hg]; exact Nat.ne_of_gt (blk_lt (g := gb361) (o := .cells #[.int .u64 a0_0, .int .u64 a0_1] 24 (0, 0)) (by (with_reducible repeat (first | refine zgq ?_ _ | refine zhq ?_ | refine ziq ?_ _)); exact BK361.out)) : gb367 ≠ gb361))
           have n8_ := zA ((by rw [hg]; exact Nat.ne_of_lt (blk_lt (g := gb362) (o := .cells #[.int .u64 0, .int .u64 0, .int .u64 0] 69 (0, 0)) (by (with_reducible repeat (first | refine zgq ?_ _ | refine zhq ?_ | refine ziq ?_ _)); exact BK362.out)) : gb362 ≠ gb367))
           have n9_ := zA ((by rw [hg]; exact Nat.ne_of_gt (blk_lt (g := gb362) (o := .cells #[.int .u64 0, .int .u64 0, .int .u64 0] 69 (0, 0)) (by (with_reducible repeat (first | refine zgq ?_ _ | refine zhq ?_ | refine ziq ?_ _)); exact BK362.out)) : gb367 ≠ gb362))
           clear BK361
           clear BK362
           clear HB
           have BK361 := n0_
           have BK362 := n1_
           have HB := n2_
           have BK367 := n3_
           have GW367 := n4_
           have GE367 := n5_
           have NB361_367 := n6_
           have NB367_361 := n7_
           have NB362_367 := n8_
           have NB367_362 := n9_
           clear n0_ n1_ n2_ n3_ n4_ n5_ n6_ n7_ n8_ n9_
           clear hb hbox hg
           refine hK.out _ _ ⟨(zmq BK361.out 0).trans rfl, (zmq BK361.out 1).trans rfl⟩ (fun hHeld => ?_)
           clear hK K
           refine norm_ (a' := ?_) ?_ ?_
           rotate_left
           ·
            show Act.put _ (some 5) _ = _
            simp only [Act.put, List.setIfInBounds_toArray, List.set_cons_zero, List.set_cons_succ, i64_w, i32_w]
            rfl
           exact norm_ (by first | (simp only [putAll, Act.put, List.setIfInBounds_toArray, List.set_cons_zero, List.set_cons_succ]; done) | (simp only [putAll, Act.put, List.setIfInBounds_toArray, List.set_cons_zero, List.set_cons_succ]; rfl)) (hJ3_8 (gb367) _ ⟨hHeld, (by (with_reducible repeat (first | refine zgq ?_ _ | refine zhq ?_ | refine ziq ?_ _)); exact BK361.out), (by (with_reducible repeat (first | refine zgq ?_ _ | refine zhq ?_ | refine ziq ?_ _)); exact BK362.out), (by (with_reducible repeat (first | refine zgq ?_ _ | refine zhq ?_ | refine ziq ?_ _)); exact BK367.out), GW367.out, GE367.out, NB361_367.out, NB367_361.out, NB362_367.out, NB367_362.out, (by repeat (first | (with_reducible first | exact HB.out | apply zaq | apply zbq | apply zcq | refine zdq ?_ GE361.out | refine zdq ?_ GE362.out | refine zdq ?_ GE367.out) | exact HB.out))⟩)
          ·
           skip
           refine box_step ?hg (N := 6) ?hd (cs := #[.int .u64 0, .int .u64 0]) (t := 24) ?hr ?_; (case hd => rfl); (case hg => rfl); (case hr => first | (go_simp; done) | (go_simp; rfl))
           intro gb368 hg w11 hbox hb
           have n0_ := zA (zlq (g := gb361) (o := .cells #[.int .u64 a0_0, .int .u64 a0_1] 24 (0, 0)) (by (with_reducible repeat (first | refine zgq ?_ _ | refine zhq ?_ | refine ziq ?_ _)); exact BK361.out) hb)
           have n1_ := zA (zlq (g := gb362) (o := .cells #[.int .u64 0, .int .u64 0, .int .u64 0] 69 (0, 0)) (by (with_reducible repeat (first | refine zgq ?_ _ | refine zhq ?_ | refine ziq ?_ _)); exact BK362.out) hb)
           have n2_ := zA (zeq (by repeat (first | (with_reducible first | exact HB.out | apply zaq | apply zbq | apply zcq | refine zdq ?_ GE361.out | refine zdq ?_ GE362.out) | exact HB.out)) hb)
           have n3_ := zA (hbox)
           have n4_ := zA ((by rw [hg]; exact (zfq (by repeat (first | (with_reducible first | exact HB.out | apply zaq | apply zbq | apply zcq | refine zdq ?_ GE361.out | refine zdq ?_ GE362.out) | exact HB.out))) : w.heap.size ≤ gb368))
           have n5_ := zA ((by rw [hg]; exact (zfq (by repeat (first | (with_reducible first | exact HB.out | apply zaq | apply zbq | apply zcq | refine zdq ?_ GE361.out | refine zdq ?_ GE362.out) | exact HB.out))) : w.heap.size ≤ gb368))
           have n6_ := zA ((by rw [hg]; exact Nat.ne_of_lt (blk_lt (g := gb361) (o := .cells #[.int .u64 a0_0, .int .u64 a0_1] 24 (0, 0)) (by (with_reducible repeat (first | refine zgq ?_ _ | refine zhq ?_ | refine ziq ?_ _)); exact BK361.out)) : gb361 ≠ gb368))
           have n7_ := zA ((by rw [hg]; exact Nat.ne_of_gt (blk_lt (g := gb361) (o := .cells #[.int .u64 a0_0, .int .u64 a0_1] 24 (0, 0)) (by (with_reducible repeat (first | refine zgq ?_ _ | refine zhq ?_ | refine ziq ?_ _)); exact BK361.out)) : gb368 ≠ gb361))
           have n8_ := zA ((by rw [hg]; exact Nat.ne_of_lt (blk_lt (g := gb362) (o := .cells #[.int .u64 0, .int .u64 0, .int .u64 0] 69 (0, 0)) (by (with_reducible repeat (first | refine zgq ?_ _ | refine zhq ?_ | refine ziq ?_ _)); exact BK362.out)) : gb362 ≠ gb368))
           have n9_ := zA ((by rw [hg]; exact Nat.ne_of_gt (blk_lt (g := gb362) (o := .cells #[.int .u64 0, .int .u64 0, .int .u64 0] 69 (0, 0)) (by (with_reducible repeat (first | refine zgq ?_ _ | refine zhq ?_ | refine ziq ?_ _)); exact BK362.out)) : gb368 ≠ gb362))
           clear BK361
           clear BK362
           clear HB
           have BK361 := n0_
           have BK362 := n1_
           have HB := n2_
           have BK368 := n3_
           have GW368 := n4_
           have GE368 := n5_
           have NB361_368 := n6_
           have NB368_361 := n7_
           have NB362_368 := n8_
           have NB368_362 := n9_
           clear n0_ n1_ n2_ n3_ n4_ n5_ n6_ n7_ n8_ n9_
           clear hb hbox hg
           refine hK.out _ _ ⟨(zmq BK361.out 0).trans rfl, (zmq BK361.out 1).trans rfl⟩ (fun hHeld => ?_)
           clear hK K
           refine norm_ (a' := ?_) ?_ ?_
           rotate_left
           ·
            show Act.put _ (some 6) _ = _
            simp only [Act.put, List.setIfInBounds_toArray, List.set_cons_zero, List.set_cons_succ, i64_w, i32_w]
            rfl
           exact norm_ (by first | (simp only [putAll, Act.put, List.setIfInBounds_toArray, List.set_cons_zero, List.set_cons_succ]; done) | (simp only [putAll, Act.put, List.setIfInBounds_toArray, List.set_cons_zero, List.set_cons_succ]; rfl)) (hJ3_9 (gb368) _ ⟨hHeld, (by (with_reducible repeat (first | refine zgq ?_ _ | refine zhq ?_ | refine ziq ?_ _)); exact BK361.out), (by (with_reducible repeat (first | refine zgq ?_ _ | refine zhq ?_ | refine ziq ?_ _)); exact BK362.out), (by (with_reducible repeat (first | refine zgq ?_ _ | refine zhq ?_ | refine ziq ?_ _)); exact BK368.out), GW368.out, GE368.out, NB361_368.out, NB368_361.out, NB362_368.out, NB368_362.out, (by repeat (first | (with_reducible first | exact HB.out | apply zaq | apply zbq | apply zcq | refine zdq ?_ GE361.out | refine zdq ?_ GE362.out | refine zdq ?_ GE368.out) | exact HB.out))⟩)
        ·
         skip
         rintro ⟨gb367, gb368⟩ w11 ⟨hS_, h0_, h1_, h2_, h3_, h4_, h5_, h6_, h7_, h8_, h9_, h10_, h11_, h12_, h13_, h14_, h15_, h16_, h17_, h18_⟩
         have n0_ : Aside0 (w11.heap[gb361]? = some (.cells #[.int .u64 a0_0, .int .u64 a0_1] 24 (0, 0))) := ⟨h0_⟩
         have n1_ : Aside0 (w11.heap[gb362]? = some (.cells #[.int .u64 0, .int .u64 0, .int .u64 0] 69 (0, 0))) := ⟨h1_⟩
         have n2_ : Aside0 (w11.heap[gb367]? = some (.cells #[.int .u64 0, .int .u64 0] 24 (0, 0))) := ⟨h2_⟩
         have n3_ : Aside0 (w11.heap[gb368]? = some (.cells #[.int .u64 0, .int .u64 0] 24 (0, 0))) := ⟨h3_⟩
         have n4_ : Aside0 (w.heap.size ≤ gb367) := ⟨h4_⟩
         have n5_ : Aside0 (w.heap.size ≤ gb367) := ⟨h5_⟩
         have n6_ : Aside0 (gb361 ≠ gb367) := ⟨h6_⟩
         have n7_ : Aside0 (gb367 ≠ gb361) := ⟨h7_⟩
         have n8_ : Aside0 (gb362 ≠ gb367) := ⟨h8_⟩
         have n9_ : Aside0 (gb367 ≠ gb362) := ⟨h9_⟩
         have n10_ : Aside0 (gb368 ≠ gb367) := ⟨h10_⟩
         have n11_ : Aside0 (gb367 ≠ gb368) := ⟨h11_⟩
         have n12_ : Aside0 (w.heap.size ≤ gb368) := ⟨h12_⟩
         have n13_ : Aside0 (w.heap.size ≤ gb368) := ⟨h13_⟩
         have n14_ : Aside0 (gb361 ≠ gb368) := ⟨h14_⟩
         have n15_ : Aside0 (gb368 ≠ gb361) := ⟨h15_⟩
         have n16_ : Aside0 (gb362 ≠ gb368) := ⟨h16_⟩
         have n17_ : Aside0 (gb368 ≠ gb362) := ⟨h17_⟩
         have n18_ : Aside0 (Below w.heap.size w w11) := ⟨h18_⟩
         clear BK361
         clear BK362
         clear HB
         clear h0_ h1_ h2_ h3_ h4_ h5_ h6_ h7_ h8_ h9_ h10_ h11_ h12_ h13_ h14_ h15_ h16_ h17_ h18_
         have BK361 := n0_
         have BK362 := n1_
         have BK367 := n2_
         have BK368 := n3_
         have GW367 := n4_
         have GE367 := n5_
         have NB361_367 := n6_
         have NB367_361 := n7_
         have NB362_367 := n8_
         have NB367_362 := n9_
         have NB368_367 := n10_
         have NB367_368 := n11_
         have GW368 := n12_
         have GE368 := n13_
         have NB361_368 := n14_
         have NB368_361 := n15_
         have NB362_368 := n16_
         have NB368_362 := n17_
         have HB := n18_
         clear n0_ n1_ n2_ n3_ n4_ n5_ n6_ n7_ n8_ n9_ n10_ n11_ n12_ n13_ n14_ n15_ n16_ n17_ n18_
         have hHeld : w11.cell? ⟨gb361, 0, none⟩ = some (.int .u64 a0_0) ∧ w11.cell? ⟨gb361, 1, none⟩ = some (.int .u64 a0_1) := hS_
         refine norm_ (a' := ?_) ?_ ?_
         rotate_left
         ·
          simp only [putAll, Act.put, List.setIfInBounds_toArray, List.set_cons_zero, List.set_cons_succ]
          rfl
         refine one_ (i := 3) (N := some 12) #[true, true, true, true, true, true, true, false, true, true, false, false] rfl rfl (one_of HT_.out (by kernel_rfl)) (by decide) (fun K hK => ?_)
         refine goes_ Try.func46 (by kernel_rfl) rfl #[.int .u64 a0_1, .int .u64 a1] (by rfl) rfl rfl (by (try simp only [List.map_toArray, List.map_cons, List.map_nil]); first | done | rfl | (simp only [List.length_drop, List.length_take]; rfl)) ?_
         with_reducible refine (wide_Mul.calls a0_1 a1 t363 t364 _ A3.out).mono ?_
         rintro e w12 ⟨rfl, hb⟩
         refine ⟨_, rfl, ?_⟩
         have n0_ := zA (zlq (g := gb361) (o := .cells #[.int .u64 a0_0, .int .u64 a0_1] 24 (0, 0)) (by (with_reducible repeat (first | refine zgq ?_ _ | refine zhq ?_ | refine ziq ?_ _)); exact BK361.out) hb)
         have n1_ := zA (zlq (g := gb362) (o := .cells #[.int .u64 0, .int .u64 0, .int .u64 0] 69 (0, 0)) (by (with_reducible repeat (first | refine zgq ?_ _ | refine zhq ?_ | refine ziq ?_ _)); exact BK362.out) hb)
         have n2_ := zA (zlq (g := gb367) (o := .cells #[.int .u64 0, .int .u64 0] 24 (0, 0)) (by (with_reducible repeat (first | refine zgq ?_ _ | refine zhq ?_ | refine ziq ?_ _)); exact BK367.out) hb)
         have n3_ := zA (zlq (g := gb368) (o := .cells #[.int .u64 0, .int .u64 0] 24 (0, 0)) (by (with_reducible repeat (first | refine zgq ?_ _ | refine zhq ?_ | refine ziq ?_ _)); exact BK368.out) hb)
         have n4_ := zA (zeq (by repeat (first | (with_reducible first | exact HB.out | apply zaq | apply zbq | apply zcq | refine zdq ?_ GE361.out | refine zdq ?_ GE362.out | refine zdq ?_ GE367.out | refine zdq ?_ GE368.out) | exact HB.out)) hb)
         clear BK361
         clear BK362
         clear BK367
         clear BK368
         clear HB
         have BK361 := n0_
         have BK362 := n1_
         have BK367 := n2_
         have BK368 := n3_
         have HB := n4_
         clear n0_ n1_ n2_ n3_ n4_
         (try clear hb)
         (try clear hb2)
         (try clear hk)
         (try clear hi)
         refine hK.out _ _ ⟨(zmq BK361.out 0).trans rfl, (zmq BK361.out 1).trans rfl⟩ (fun hHeld => ?_)
         clear hK K
         refine norm_ (a' := ?_) ?_ ?_
         rotate_left
         ·
          show Act.put _ (some 12) _ = _
          simp only [Act.put, List.setIfInBounds_toArray, List.set_cons_zero, List.set_cons_succ, i64_w, i32_w]
          rfl
         exact norm_ (by first | (simp only [putAll, Act.put, List.setIfInBounds_toArray, List.set_cons_zero, List.set_cons_succ]; done) | (simp only [putAll, Act.put, List.setIfInBounds_toArray, List.set_cons_zero, List.set_cons_succ]; rfl)) (hJ3_8_9 (gb367, gb368) _ ⟨hHeld, (by (with_reducible repeat (first | refine zgq ?_ _ | refine zhq ?_ | refine ziq ?_ _)); exact BK361.out), (by (with_reducible repeat (first | refine zgq ?_ _ | refine zhq ?_ | refine ziq ?_ _)); exact BK362.out), (by (with_reducible repeat (first | refine zgq ?_ _ | refine zhq ?_ | refine ziq ?_ _)); exact BK367.out), (by (with_reducible repeat (first | refine zgq ?_ _ | refine zhq ?_ | refine ziq ?_ _)); exact BK368.out), GW367.out, GE367.out, NB361_367.out, NB367_361.out, NB362_367.out, NB367_362.out, NB368_367.out, NB367_368.out, GW368.out, GE368.out, NB361_368.out, NB368_361.out, NB362_368.out, NB368_362.out, (by repeat (first | (with_reducible first | exact HB.out | apply zaq | apply zbq | apply zcq | refine zdq ?_ GE361.out | refine zdq ?_ GE362.out | refine zdq ?_ GE367.out | refine zdq ?_ GE368.out) | exact HB.out))⟩)
       ·
        skip
        rintro gb368 w11 ⟨hS_, h0_, h1_, h2_, h3_, h4_, h5_, h6_, h7_, h8_, h9_⟩
        have n0_ : Aside0 (w11.heap[gb361]? = some (.cells #[.int .u64 a0_0, .int .u64 a0_1] 24 (0, 0))) := ⟨h0_⟩
        have n1_ : Aside0 (w11.heap[gb362]? = some (.cells #[.int .u64 0, .int .u64 0, .int .u64 0] 69 (0, 0))) := ⟨h1_⟩
        have n2_ : Aside0 (w11.heap[gb368]? = some (.cells #[.int .u64 0, .int .u64 0] 24 (0, 0))) := ⟨h2_⟩
        have n3_ : Aside0 (w.heap.size ≤ gb368) := ⟨h3_⟩
        have n4_ : Aside0 (w.heap.size ≤ gb368) := ⟨h4_⟩
        have n5_ : Aside0 (gb361 ≠ gb368) := ⟨h5_⟩
        have n6_ : Aside0 (gb368 ≠ gb361) := ⟨h6_⟩
        have n7_ : Aside0 (gb362 ≠ gb368) := ⟨h7_⟩
        have n8_ : Aside0 (gb368 ≠ gb362) := ⟨h8_⟩
        have n9_ : Aside0 (Below w.heap.size w w11) := ⟨h9_⟩
        clear BK361
        clear BK362
        clear HB
        clear h0_ h1_ h2_ h3_ h4_ h5_ h6_ h7_ h8_ h9_
        have BK361 := n0_
        have BK362 := n1_
        have BK368 := n2_
        have GW368 := n3_
        have GE368 := n4_
        have NB361_368 := n5_
        have NB368_361 := n6_
        have NB362_368 := n7_
        have NB368_362 := n8_
        have HB := n9_
        clear n0_ n1_ n2_ n3_ n4_ n5_ n6_ n7_ n8_ n9_
        have hHeld : w11.cell? ⟨gb361, 0, none⟩ = some (.int .u64 a0_0) ∧ w11.cell? ⟨gb361, 1, none⟩ = some (.int .u64 a0_1) := hS_
        refine norm_ (a' := ?_) ?_ ?_
        rotate_left
        ·
         simp only [putAll, Act.put, List.setIfInBounds_toArray, List.set_cons_zero, List.set_cons_succ]
         rfl
        refine two_ (i := 7) (j := 8) (Ni := some 16) (Nj := some 5) #[true, true, true, true, true, true, true, true, false, true, false, false] #[true, true, true, true, true, true, true, false, true, true, false, false] rfl rfl rfl rfl (two_of HT_.out (by kernel_rfl)) (by decide) (by decide) (fun K hK => ?_) (fun K hK => ?_)
        ·
         skip
         refine goes_ Try.func46 (by kernel_rfl) rfl #[.int .u64 a0_0, .int .u64 a1] (by rfl) rfl rfl (by (try simp only [List.map_toArray, List.map_cons, List.map_nil]); first | done | rfl | (simp only [List.length_drop, List.length_take]; rfl)) ?_
         with_reducible refine (wide_Mul.calls a0_0 a1 t365 t366 _ A4.out).mono ?_
         rintro e w12 ⟨rfl, hb⟩
         refine ⟨_, rfl, ?_⟩
         have n0_ := zA (zlq (g := gb361) (o := .cells #[.int .u64 a0_0, .int .u64 a0_1] 24 (0, 0)) (by (with_reducible repeat (first | refine zgq ?_ _ | refine zhq ?_ | refine ziq ?_ _)); exact BK361.out) hb)
         have n1_ := zA (zlq (g := gb362) (o := .cells #[.int .u64 0, .int .u64 0, .int .u64 0] 69 (0, 0)) (by (with_reducible repeat (first | refine zgq ?_ _ | refine zhq ?_ | refine ziq ?_ _)); exact BK362.out) hb)
         have n2_ := zA (zlq (g := gb368) (o := .cells #[.int .u64 0, .int .u64 0] 24 (0, 0)) (by (with_reducible repeat (first | refine zgq ?_ _ | refine zhq ?_ | refine ziq ?_ _)); exact BK368.out) hb)
         have n3_ := zA (zeq (by repeat (first | (with_reducible first | exact HB.out | apply zaq | apply zbq | apply zcq | refine zdq ?_ GE361.out | refine zdq ?_ GE362.out | refine zdq ?_ GE368.out) | exact HB.out)) hb)
         clear BK361
         clear BK362
         clear BK368
         clear HB
         have BK361 := n0_
         have BK362 := n1_
         have BK368 := n2_
         have HB := n3_
         clear n0_ n1_ n2_ n3_
         (try clear hb)
         (try clear hb2)
         (try clear hk)
         (try clear hi)
         refine hK.out _ _ ⟨(zmq BK361.out 0).trans rfl, (zmq BK361.out 1).trans rfl⟩ (fun hHeld => ?_)
         clear hK K
         refine norm_ (a' := ?_) ?_ ?_
         rotate_left
         ·
          show Act.put _ (some 16) _ = _
          simp only [Act.put, List.setIfInBounds_toArray, List.set_cons_zero, List.set_cons_succ, i64_w, i32_w]
          rfl
         exact norm_ (by first | (simp only [putAll, Act.put, List.setIfInBounds_toArray, List.set_cons_zero, List.set_cons_succ]; done) | (simp only [putAll, Act.put, List.setIfInBounds_toArray, List.set_cons_zero, List.set_cons_succ]; rfl)) (hJ3_7_9 (gb368) _ ⟨hHeld, (by (with_reducible repeat (first | refine zgq ?_ _ | refine zhq ?_ | refine ziq ?_ _)); exact BK361.out), (by (with_reducible repeat (first | refine zgq ?_ _ | refine zhq ?_ | refine ziq ?_ _)); exact BK362.out), (by (with_reducible repeat (first | refine zgq ?_ _ | refine zhq ?_ | refine ziq ?_ _)); exact BK368.out), GW368.out, GE368.out, NB361_368.out, NB368_361.out, NB362_368.out, NB368_362.out, (by repeat (first | (with_reducible first | exact HB.out | apply zaq | apply zbq | apply zcq | refine zdq ?_ GE361.out | refine zdq ?_ GE362.out | refine zdq ?_ GE368.out) | exact HB.out))⟩)
        ·
         skip
         refine box_step ?hg (N := 5) ?hd (cs := #[.int .u64 0, .int .u64 0]) (t := 24) ?hr ?_; (case hd => rfl); (case hg => rfl); (case hr => first | (go_simp; done) | (go_simp; rfl))
         intro gb367 hg w12 hbox hb
         have n0_ := zA (zlq (g := gb361) (o := .cells #[.int .u64 a0_0, .int .u64 a0_1] 24 (0, 0)) (by (with_reducible repeat (first | refine zgq ?_ _ | refine zhq ?_ | refine ziq ?_ _)); exact BK361.out) hb)
         have n1_ := zA (zlq (g := gb362) (o := .cells #[.int .u64 0, .int .u64 0, .int .u64 0] 69 (0, 0)) (by (with_reducible repeat (first | refine zgq ?_ _ | refine zhq ?_ | refine ziq ?_ _)); exact BK362.out) hb)
         have n2_ := zA (zlq (g := gb368) (o := .cells #[.int .u64 0, .int .u64 0] 24 (0, 0)) (by (with_reducible repeat (first | refine zgq ?_ _ | refine zhq ?_ | refine ziq ?_ _)); exact BK368.out) hb)
         have n3_ := zA (zeq (by repeat (first | (with_reducible first | exact HB.out | apply zaq | apply zbq | apply zcq | refine zdq ?_ GE361.out | refine zdq ?_ GE362.out | refine zdq ?_ GE368.out) | exact HB.out)) hb)
         have n4_ := zA (hbox)
         have n5_ := zA ((by rw [hg]; exact (zfq (by repeat (first | (with_reducible first | exact HB.out | apply zaq | apply zbq | apply zcq | refine zdq ?_ GE361.out | refine zdq ?_ GE362.out | refine zdq ?_ GE368.out) | exact HB.out))) : w.heap.size ≤ gb367))
         have n6_ := zA ((by rw [hg]; exact (zfq (by repeat (first | (with_reducible first | exact HB.out | apply zaq | apply zbq | apply zcq | refine zdq ?_ GE361.out | refine zdq ?_ GE362.out | refine zdq ?_ GE368.out) | exact HB.out))) : w.heap.size ≤ gb367))
         have n7_ := zA ((by rw [hg]; exact Nat.ne_of_lt (blk_lt (g := gb361) (o := .cells #[.int .u64 a0_0, .int .u64 a0_1] 24 (0, 0)) (by (with_reducible repeat (first | refine zgq ?_ _ | refine zhq ?_ | refine ziq ?_ _)); exact BK361.out)) : gb361 ≠ gb367))
         have n8_ := zA ((by rw [hg]; exact Nat.ne_of_gt (blk_lt (g := gb361) (o := .cells #[.int .u64 a0_0, .int .u64 a0_1] 24 (0, 0)) (by (with_reducible repeat (first | refine zgq ?_ _ | refine zhq ?_ | refine ziq ?_ _)); exact BK361.out)) : gb367 ≠ gb361))
         have n9_ := zA ((by rw [hg]; exact Nat.ne_of_lt (blk_lt (g := gb362) (o := .cells #[.int .u64 0, .int .u64 0, .int .u64 0] 69 (0, 0)) (by (with_reducible repeat (first | refine zgq ?_ _ | refine zhq ?_ | refine ziq ?_ _)); exact BK362.out)) : gb362 ≠ gb367))
         have n10_ := zA ((by rw [hg]; exact Nat.ne_of_gt (blk_lt (g := gb362) (o := .cells #[.int .u64 0, .int .u64 0, .int .u64 0] 69 (0, 0)) (by (with_reducible repeat (first | refine zgq ?_ _ | refine zhq ?_ | refine ziq ?_ _)); exact BK362.out)) : gb367 ≠ gb362))
         have n11_ := zA ((by rw [hg]; exact Nat.ne_of_lt (blk_lt (g := gb368) (o := .cells #[.int .u64 0, .int .u64 0] 24 (0, 0)) (by (with_reducible repeat (first | refine zgq ?_ _ | refine zhq ?_ | refine ziq ?_ _)); exact BK368.out)) : gb368 ≠ gb367))
         have n12_ := zA ((by rw [hg]; exact Nat.ne_of_gt (blk_lt (g := gb368) (o := .cells #[.int .u64 0, .int .u64 0] 24 (0, 0)) (by (with_reducible repeat (first | refine zgq ?_ _ | refine zhq ?_ | refine ziq ?_ _)); exact BK368.out)) : gb367 ≠ gb368))
         clear BK361
         clear BK362
         clear BK368
         clear HB
         have BK361 := n0_
         have BK362 := n1_
         have BK368 := n2_
         have HB := n3_
         have BK367 := n4_
         have GW367 := n5_
         have GE367 := n6_
         have NB361_367 := n7_
         have NB367_361 := n8_
         have NB362_367 := n9_
         have NB367_362 := n10_
         have NB368_367 := n11_
         have NB367_368 := n12_
         clear n0_ n1_ n2_ n3_ n4_ n5_ n6_ n7_ n8_ n9_ n10_ n11_ n12_
         clear hb hbox hg
         refine hK.out _ _ ⟨(zmq BK361.out 0).trans rfl, (zmq BK361.out 1).trans rfl⟩ (fun hHeld => ?_)
         clear hK K
         refine norm_ (a' := ?_) ?_ ?_
         rotate_left
         ·
          show Act.put _ (some 5) _ = _
          simp only [Act.put, List.setIfInBounds_toArray, List.set_cons_zero, List.set_cons_succ, i64_w, i32_w]
          rfl
         exact norm_ (by first | (simp only [putAll, Act.put, List.setIfInBounds_toArray, List.set_cons_zero, List.set_cons_succ]; done) | (simp only [putAll, Act.put, List.setIfInBounds_toArray, List.set_cons_zero, List.set_cons_succ]; rfl)) (hJ3_8_9 (gb367, gb368) _ ⟨hHeld, (by (with_reducible repeat (first | refine zgq ?_ _ | refine zhq ?_ | refine ziq ?_ _)); exact BK361.out), (by (with_reducible repeat (first | refine zgq ?_ _ | refine zhq ?_ | refine ziq ?_ _)); exact BK362.out), (by (with_reducible repeat (first | refine zgq ?_ _ | refine zhq ?_ | refine ziq ?_ _)); exact BK367.out), (by (with_reducible repeat (first | refine zgq ?_ _ | refine zhq ?_ | refine ziq ?_ _)); exact BK368.out), GW367.out, GE367.out, NB361_367.out, NB367_361.out, NB362_367.out, NB367_362.out, NB368_367.out, NB367_368.out, GW368.out, GE368.out, NB361_368.out, NB368_361.out, NB362_368.out, NB368_362.out, (by repeat (first | (with_reducible first | exact HB.out | apply zaq | apply zbq | apply zcq | refine zdq ?_ GE361.out | refine zdq ?_ GE362.out | refine zdq ?_ GE368.out | refine zdq ?_ GE367.out) | exact HB.out))⟩)
      ·
       skip
       rintro gb367 w11 ⟨hS_, h0_, h1_, h2_, h3_, h4_, h5_, h6_, h7_, h8_, h9_⟩
       have n0_ : Aside0 (w11.heap[gb361]? = some (.cells #[.int .u64 a0_0, .int .u64 a0_1] 24 (0, 0))) := ⟨h0_⟩
       have n1_ : Aside0 (w11.heap[gb362]? = some (.cells #[.int .u64 0, .int .u64 0, .int .u64 0] 69 (0, 0))) := ⟨h1_⟩
       have n2_ : Aside0 (w11.heap[gb367]? = some (.cells #[.int .u64 0, .int .u64 0] 24 (0, 0))) := ⟨h2_⟩
       have n3_ : Aside0 (w.heap.size ≤ gb367) := ⟨h3_⟩
       have n4_ : Aside0 (w.heap.size ≤ gb367) := ⟨h4_⟩
       have n5_ : Aside0 (gb361 ≠ gb367) := ⟨h5_⟩
       have n6_ : Aside0 (gb367 ≠ gb361) := ⟨h6_⟩
       have n7_ : Aside0 (gb362 ≠ gb367) := ⟨h7_⟩
       have n8_ : Aside0 (gb367 ≠ gb362) := ⟨h8_⟩
       have n9_ : Aside0 (Below w.heap.size w w11) := ⟨h9_⟩
       clear BK361
       clear BK362
       clear HB
       clear h0_ h1_ h2_ h3_ h4_ h5_ h6_ h7_ h8_ h9_
       have BK361 := n0_
       have BK362 := n1_
       have BK367 := n2_
       have GW367 := n3_
       have GE367 := n4_
       have NB361_367 := n5_
       have NB367_361 := n6_
       have NB362_367 := n7_
       have NB367_362 := n8_
       have HB := n9_
       clear n0_ n1_ n2_ n3_ n4_ n5_ n6_ n7_ n8_ n9_
       have hHeld : w11.cell? ⟨gb361, 0, none⟩ = some (.int .u64 a0_0) ∧ w11.cell? ⟨gb361, 1, none⟩ = some (.int .u64 a0_1) := hS_
       refine norm_ (a' := ?_) ?_ ?_
       rotate_left
       ·
        simp only [putAll, Act.put, List.setIfInBounds_toArray, List.set_cons_zero, List.set_cons_succ]
        rfl
       refine two_ (i := 7) (j := 9) (Ni := some 16) (Nj := some 6) #[true, true, true, true, true, true, true, true, true, false, false, false] #[true, true, true, true, true, true, true, false, true, true, false, false] rfl rfl rfl rfl (two_of HT_.out (by kernel_rfl)) (by decide) (by decide) (fun K hK => ?_) (fun K hK => ?_)
       ·
        skip
        refine goes_ Try.func46 (by kernel_rfl) rfl #[.int .u64 a0_0, .int .u64 a1] (by rfl) rfl rfl (by (try simp only [List.map_toArray, List.map_cons, List.map_nil]); first | done | rfl | (simp only [List.length_drop, List.length_take]; rfl)) ?_
        with_reducible refine (wide_Mul.calls a0_0 a1 t365 t366 _ A4.out).mono ?_
        rintro e w12 ⟨rfl, hb⟩
        refine ⟨_, rfl, ?_⟩
        have n0_ := zA (zlq (g := gb361) (o := .cells #[.int .u64 a0_0, .int .u64 a0_1] 24 (0, 0)) (by (with_reducible repeat (first | refine zgq ?_ _ | refine zhq ?_ | refine ziq ?_ _)); exact BK361.out) hb)
        have n1_ := zA (zlq (g := gb362) (o := .cells #[.int .u64 0, .int .u64 0, .int .u64 0] 69 (0, 0)) (by (with_reducible repeat (first | refine zgq ?_ _ | refine zhq ?_ | refine ziq ?_ _)); exact BK362.out) hb)
        have n2_ := zA (zlq (g := gb367) (o := .cells #[.int .u64 0, .int .u64 0] 24 (0, 0)) (by (with_reducible repeat (first | refine zgq ?_ _ | refine zhq ?_ | refine ziq ?_ _)); exact BK367.out) hb)
        have n3_ := zA (zeq (by repeat (first | (with_reducible first | exact HB.out | apply zaq | apply zbq | apply zcq | refine zdq ?_ GE361.out | refine zdq ?_ GE362.out | refine zdq ?_ GE367.out) | exact HB.out)) hb)
        clear BK361
        clear BK362
        clear BK367
        clear HB
        have BK361 := n0_
        have BK362 := n1_
        have BK367 := n2_
        have HB := n3_
        clear n0_ n1_ n2_ n3_
        (try clear hb)
        (try clear hb2)
        (try clear hk)
        (try clear hi)
        refine hK.out _ _ ⟨(zmq BK361.out 0).trans rfl, (zmq BK361.out 1).trans rfl⟩ (fun hHeld => ?_)
        clear hK K
        refine norm_ (a' := ?_) ?_ ?_
        rotate_left
        ·
         show Act.put _ (some 16) _ = _
         simp only [Act.put, List.setIfInBounds_toArray, List.set_cons_zero, List.set_cons_succ, i64_w, i32_w]
         rfl
        exact norm_ (by first | (simp only [putAll, Act.put, List.setIfInBounds_toArray, List.set_cons_zero, List.set_cons_succ]; done) | (simp only [putAll, Act.put, List.setIfInBounds_toArray, List.set_cons_zero, List.set_cons_succ]; rfl)) (hJ3_7_8 (gb367) _ ⟨hHeld, (by (with_reducible repeat (first | refine zgq ?_ _ | refine zhq ?_ | refine ziq ?_ _)); exact BK361.out), (by (with_reducible repeat (first | refine zgq ?_ _ | refine zhq ?_ | refine ziq ?_ _)); exact BK362.out), (by (with_reducible repeat (first | refine zgq ?_ _ | refine zhq ?_ | refine ziq ?_ _)); exact BK367.out), GW367.out, GE367.out, NB361_367.out, NB367_361.out, NB362_367.out, NB367_362.out, (by repeat (first | (with_reducible first | exact HB.out | apply zaq | apply zbq | apply zcq | refine zdq ?_ GE361.out | refine zdq ?_ GE362.out | refine zdq ?_ GE367.out) | exact HB.out))⟩)
       ·
        skip
        refine box_step ?hg (N := 6) ?hd (cs := #[.int .u64 0, .int .u64 0]) (t := 24) ?hr ?_; (case hd => rfl); (case hg => rfl); (case hr => first | (go_simp; done) | (go_simp; rfl))
        intro gb368 hg w12 hbox hb
        have n0_ := zA (zlq (g := gb361) (o := .cells #[.int .u64 a0_0, .int .u64 a0_1] 24 (0, 0)) (by (with_reducible repeat (first | refine zgq ?_ _ | refine zhq ?_ | refine ziq ?_ _)); exact BK361.out) hb)
        have n1_ := zA (zlq (g := gb362) (o := .cells #[.int .u64 0, .int .u64 0, .int .u64 0] 69 (0, 0)) (by (with_reducible repeat (first | refine zgq ?_ _ | refine zhq ?_ | refine ziq ?_ _)); exact BK362.out) hb)
        have n2_ := zA (zlq (g := gb367) (o := .cells #[.int .u64 0, .int .u64 0] 24 (0, 0)) (by (with_reducible repeat (first | refine zgq ?_ _ | refine zhq ?_ | refine ziq ?_ _)); exact BK367.out) hb)
        have n3_ := zA (zeq (by repeat (first | (with_reducible first | exact HB.out | apply zaq | apply zbq | apply zcq | refine zdq ?_ GE361.out | refine zdq ?_ GE362.out | refine zdq ?_ GE367.out) | exact HB.out)) hb)
        have n4_ := zA (hbox)
        have n5_ := zA ((by rw [hg]; exact (zfq (by repeat (first | (with_reducible first | exact HB.out | apply zaq | apply zbq | apply zcq | refine zdq ?_ GE361.out | refine zdq ?_ GE362.out | refine zdq ?_ GE367.out) | exact HB.out))) : w.heap.size ≤ gb368))
        have n6_ := zA ((by rw [hg]; exact (zfq (by repeat (first | (with_reducible first | exact HB.out | apply zaq | apply zbq | apply zcq | refine zdq ?_ GE361.out | refine zdq ?_ GE362.out | refine zdq ?_ GE367.out) | exact HB.out))) : w.heap.size ≤ gb368))
        have n7_ := zA ((by rw [hg]; exact Nat.ne_of_lt (blk_lt (g := gb361) (o := .cells #[.int .u64 a0_0, .int .u64 a0_1] 24 (0, 0)) (by (with_reducible repeat (first | refine zgq ?_ _ | refine zhq ?_ | refine ziq ?_ _)); exact BK361.out)) : gb361 ≠ gb368))
        have n8_ := zA ((by rw [hg]; exact Nat.ne_of_gt (blk_lt (g := gb361) (o := .cells #[.int .u64 a0_0, .int .u64 a0_1] 24 (0, 0)) (by (with_reducible repeat (first | refine zgq ?_ _ | refine zhq ?_ | refine ziq ?_ _)); exact BK361.out)) : gb368 ≠ gb361))
        have n9_ := zA ((by rw [hg]; exact Nat.ne_of_lt (blk_lt (g := gb362) (o := .cells #[.int .u64 0, .int .u64 0, .int .u64 0] 69 (0, 0)) (by (with_reducible repeat (first | refine zgq ?_ _ | refine zhq ?_ | refine ziq ?_ _)); exact BK362.out)) : gb362 ≠ gb368))
        have n10_ := zA ((by rw [hg]; exact Nat.ne_of_gt (blk_lt (g := gb362) (o := .cells #[.int .u64 0, .int .u64 0, .int .u64 0] 69 (0, 0)) (by (with_reducible repeat (first | refine zgq ?_ _ | refine zhq ?_ | refine ziq ?_ _)); exact BK362.out)) : gb368 ≠ gb362))
        have n11_ := zA ((by rw [hg]; exact Nat.ne_of_lt (blk_lt (g := gb367) (o := .cells #[.int .u64 0, .int .u64 0] 24 (0, 0)) (by (with_reducible repeat (first | refine zgq ?_ _ | refine zhq ?_ | refine ziq ?_ _)); exact BK367.out)) : gb367 ≠ gb368))
        have n12_ := zA ((by rw [hg]; exact Nat.ne_of_gt (blk_lt (g := gb367) (o := .cells #[.int .u64 0, .int .u64 0] 24 (0, 0)) (by (with_reducible repeat (first | refine zgq ?_ _ | refine zhq ?_ | refine ziq ?_ _)); exact BK367.out)) : gb368 ≠ gb367))
        clear BK361
        clear BK362
        clear BK367
        clear HB
        have BK361 := n0_
        have BK362 := n1_
        have BK367 := n2_
        have HB := n3_
        have BK368 := n4_
        have GW368 := n5_
        have GE368 := n6_
        have NB361_368 := n7_
        have NB368_361 := n8_
        have NB362_368 := n9_
        have NB368_362 := n10_
        have NB367_368 := n11_
        have NB368_367 := n12_
        clear n0_ n1_ n2_ n3_ n4_ n5_ n6_ n7_ n8_ n9_ n10_ n11_ n12_
        clear hb hbox hg
        refine hK.out _ _ ⟨(zmq BK361.out 0).trans rfl, (zmq BK361.out 1).trans rfl⟩ (fun hHeld => ?_)
        clear hK K
        refine norm_ (a' := ?_) ?_ ?_
        rotate_left
        ·
         show Act.put _ (some 6) _ = _
         simp only [Act.put, List.setIfInBounds_toArray, List.set_cons_zero, List.set_cons_succ, i64_w, i32_w]
         rfl
        exact norm_ (by first | (simp only [putAll, Act.put, List.setIfInBounds_toArray, List.set_cons_zero, List.set_cons_succ]; done) | (simp only [putAll, Act.put, List.setIfInBounds_toArray, List.set_cons_zero, List.set_cons_succ]; rfl)) (hJ3_8_9 (gb367, gb368) _ ⟨hHeld, (by (with_reducible repeat (first | refine zgq ?_ _ | refine zhq ?_ | refine ziq ?_ _)); exact BK361.out), (by (with_reducible repeat (first | refine zgq ?_ _ | refine zhq ?_ | refine ziq ?_ _)); exact BK362.out), (by (with_reducible repeat (first | refine zgq ?_ _ | refine zhq ?_ | refine ziq ?_ _)); exact BK367.out), (by (with_reducible repeat (first | refine zgq ?_ _ | refine zhq ?_ | refine ziq ?_ _)); exact BK368.out), GW367.out, GE367.out, NB361_367.out, NB367_361.out, NB362_367.out, NB367_362.out, NB368_367.out, NB367_368.out, GW368.out, GE368.out, NB361_368.out, NB368_361.out, NB362_368.out, NB368_362.out, (by repeat (first | (with_reducible first | exact HB.out | apply zaq | apply zbq | apply zcq | refine zdq ?_ GE361.out | refine zdq ?_ GE362.out | refine zdq ?_ GE367.out | refine zdq ?_ GE368.out) | exact HB.out))⟩)
     ·
      skip
      rintro _ w11 ⟨hS_, h0_, h1_, h2_⟩
      have n0_ : Aside0 (w11.heap[gb361]? = some (.cells #[.int .u64 a0_0, .int .u64 a0_1] 24 (0, 0))) := ⟨h0_⟩
      have n1_ : Aside0 (w11.heap[gb362]? = some (.cells #[.int .u64 0, .int .u64 0, .int .u64 0] 69 (0, 0))) := ⟨h1_⟩
      have n2_ : Aside0 (Below w.heap.size w w11) := ⟨h2_⟩
      clear BK361
      clear BK362
      clear HB
      clear h0_ h1_ h2_
      have BK361 := n0_
      have BK362 := n1_
      have HB := n2_
      clear n0_ n1_ n2_
      have hHeld : w11.cell? ⟨gb361, 0, none⟩ = some (.int .u64 a0_0) ∧ w11.cell? ⟨gb361, 1, none⟩ = some (.int .u64 a0_1) := hS_
      refine norm_ (a' := ?_) ?_ ?_
      rotate_left
      ·
       simp only [putAll, Act.put, List.setIfInBounds_toArray, List.set_cons_zero, List.set_cons_succ]
       rfl
      refine two_ (i := 8) (j := 9) (Ni := some 5) (Nj := some 6) #[true, true, true, true, true, true, true, true, true, false, false, false] #[true, true, true, true, true, true, true, true, false, true, false, false] rfl rfl rfl rfl (two_of HT_.out (by kernel_rfl)) (by decide) (by decide) (fun K hK => ?_) (fun K hK => ?_)
      ·
       skip
       refine box_step ?hg (N := 5) ?hd (cs := #[.int .u64 0, .int .u64 0]) (t := 24) ?hr ?_; (case hd => rfl); (case hg => rfl); (case hr => first | (go_simp; done) | (go_simp; rfl))
       intro gb367 hg w12 hbox hb
       have n0_ := zA (zlq (g := gb361) (o := .cells #[.int .u64 a0_0, .int .u64 a0_1] 24 (0, 0)) (by (with_reducible repeat (first | refine zgq ?_ _ | refine zhq ?_ | refine ziq ?_ _)); exact BK361.out) hb)
       have n1_ := zA (zlq (g := gb362) (o := .cells #[.int .u64 0, .int .u64 0, .int .u64 0] 69 (0, 0)) (by (with_reducible repeat (first | refine zgq ?_ _ | refine zhq ?_ | refine ziq ?_ _)); exact BK362.out) hb)
       have n2_ := zA (zeq (by repeat (first | (with_reducible first | exact HB.out | apply zaq | apply zbq | apply zcq | refine zdq ?_ GE361.out | refine zdq ?_ GE362.out) | exact HB.out)) hb)
       have n3_ := zA (hbox)
       have n4_ := zA ((by rw [hg]; exact (zfq (by repeat (first | (with_reducible first | exact HB.out | apply zaq | apply zbq | apply zcq | refine zdq ?_ GE361.out | refine zdq ?_ GE362.out) | exact HB.out))) : w.heap.size ≤ gb367))
       have n5_ := zA ((by rw [hg]; exact (zfq (by repeat (first | (with_reducible first | exact HB.out | apply zaq | apply zbq | apply zcq | refine zdq ?_ GE361.out | refine zdq ?_ GE362.out) | exact HB.out))) : w.heap.size ≤ gb367))
       have n6_ := zA ((by rw [hg]; exact Nat.ne_of_lt (blk_lt (g := gb361) (o := .cells #[.int .u64 a0_0, .int .u64 a0_1] 24 (0, 0)) (by (with_reducible repeat (first | refine zgq ?_ _ | refine zhq ?_ | refine ziq ?_ _)); exact BK361.out)) : gb361 ≠ gb367))
       have n7_ := zA ((by rw [hg]; exact Nat.ne_of_gt (blk_lt (g := gb361) (o := .cells #[.int .u64 a0_0, .int .u64 a0_1] 24 (0, 0)) (by (with_reducible repeat (first | refine zgq ?_ _ | refine zhq ?_ | refine ziq ?_ _)); exact BK361.out)) : gb367 ≠ gb361))
       have n8_ := zA ((by rw [hg]; exact Nat.ne_of_lt (blk_lt (g := gb362) (o := .cells #[.int .u64 0, .int .u64 0, .int .u64 0] 69 (0, 0)) (by (with_reducible repeat (first | refine zgq ?_ _ | refine zhq ?_ | refine ziq ?_ _)); exact BK362.out)) : gb362 ≠ gb367))
       have n9_ := zA ((by rw [hg]; exact Nat.ne_of_gt (blk_lt (g := gb362) (o := .cells #[.int .u64 0, .int .u64 0, .int .u64 0] 69 (0, 0)) (by (with_reducible repeat (first | refine zgq ?_ _ | refine zhq ?_ | refine ziq ?_ _)); exact BK362.out)) : gb367 ≠ gb362))
       clear BK361
       clear BK362
       clear HB
       have BK361 := n0_
       have BK362 := n1_
       have HB := n2_
       have BK367 := n3_
       have GW367 := n4_
       have GE367 := n5_
       have NB361_367 := n6_
       have NB367_361 := n7_
       have NB362_367 := n8_
       have NB367_362 := n9_
       clear n0_ n1_ n2_ n3_ n4_ n5_ n6_ n7_ n8_ n9_
       clear hb hbox hg
       refine hK.out _ _ ⟨(zmq BK361.out 0).trans rfl, (zmq BK361.out 1).trans rfl⟩ (fun hHeld => ?_)
       clear hK K
       refine norm_ (a' := ?_) ?_ ?_
       rotate_left
       ·
        show Act.put _ (some 5) _ = _
        simp only [Act.put, List.setIfInBounds_toArray, List.set_cons_zero, List.set_cons_succ, i64_w, i32_w]
        rfl
       exact norm_ (by first | (simp only [putAll, Act.put, List.setIfInBounds_toArray, List.set_cons_zero, List.set_cons_succ]; done) | (simp only [putAll, Act.put, List.setIfInBounds_toArray, List.set_cons_zero, List.set_cons_succ]; rfl)) (hJ3_7_8 (gb367) _ ⟨hHeld, (by (with_reducible repeat (first | refine zgq ?_ _ | refine zhq ?_ | refine ziq ?_ _)); exact BK361.out), (by (with_reducible repeat (first | refine zgq ?_ _ | refine zhq ?_ | refine ziq ?_ _)); exact BK362.out), (by (with_reducible repeat (first | refine zgq ?_ _ | refine zhq ?_ | refine ziq ?_ _)); exact BK367.out), GW367.out, GE367.out, NB361_367.out, NB367_361.out, NB362_367.out, NB367_362.out, (by repeat (first | (with_reducible first | exact HB.out | apply zaq | apply zbq | apply zcq | refine zdq ?_ GE361.out | refine zdq ?_ GE362.out | refine zdq ?_ GE367.out) | exact HB.out))⟩)
      ·
       skip
       refine box_step ?hg (N := 6) ?hd (cs := #[.int .u64 0, .int .u64 0]) (t := 24) ?hr ?_; (case hd => rfl); (case hg => rfl); (case hr => first | (go_simp; done) | (go_simp; rfl))
       intro gb368 hg w12 hbox hb
       have n0_ := zA (zlq (g := gb361) (o := .cells #[.int .u64 a0_0, .int .u64 a0_1] 24 (0, 0)) (by (with_reducible repeat (first | refine zgq ?_ _ | refine zhq ?_ | refine ziq ?_ _)); exact BK361.out) hb)
       have n1_ := zA (zlq (g := gb362) (o := .cells #[.int .u64 0, .int .u64 0, .int .u64 0] 69 (0, 0)) (by (with_reducible repeat (first | refine zgq ?_ _ | refine zhq ?_ | refine ziq ?_ _)); exact BK362.out) hb)
       have n2_ := zA (zeq (by repeat (first | (with_reducible first | exact HB.out | apply zaq | apply zbq | apply zcq | refine zdq ?_ GE361.out | refine zdq ?_ GE362.out) | exact HB.out)) hb)
       have n3_ := zA (hbox)
       have n4_ := zA ((by rw [hg]; exact (zfq (by repeat (first | (with_reducible first | exact HB.out | apply zaq | apply zbq | apply zcq | refine zdq ?_ GE361.out | refine zdq ?_ GE362.out) | exact HB.out))) : w.heap.size ≤ gb368))
       have n5_ := zA ((by rw [hg]; exact (zfq (by repeat (first | (with_reducible first | exact HB.out | apply zaq | apply zbq | apply zcq | refine zdq ?_ GE361.out | refine zdq ?_ GE362.out) | exact HB.out))) : w.heap.size ≤ gb368))
       have n6_ := zA ((by rw [hg]; exact Nat.ne_of_lt (blk_lt (g := gb361) (o := .cells #[.int .u64 a0_0, .int .u64 a0_1] 24 (0, 0)) (by (with_reducible repeat (first | refine zgq ?_ _ | refine zhq ?_ | refine ziq ?_ _)); exact BK361.out)) : gb361 ≠ gb368))
       have n7_ := zA ((by rw [hg]; exact Nat.ne_of_gt (blk_lt (g := gb361) (o := .cells #[.int .u64 a0_0, .int .u64 a0_1] 24 (0, 0)) (by (with_reducible repeat (first | refine zgq ?_ _ | refine zhq ?_ | refine ziq ?_ _)); exact BK361.out)) : gb368 ≠ gb361))
       have n8_ := zA ((by rw [hg]; exact Nat.ne_of_lt (blk_lt (g := gb362) (o := .cells #[.int .u64 0, .int .u64 0, .int .u64 0] 69 (0, 0)) (by (with_reducible repeat (first | refine zgq ?_ _ | refine zhq ?_ | refine ziq ?_ _)); exact BK362.out)) : gb362 ≠ gb368))
       have n9_ := zA ((by rw [hg]; exact Nat.ne_of_gt (blk_lt (g := gb362) (o := .cells #[.int .u64 0, .int .u64 0, .int .u64 0] 69 (0, 0)) (by (with_reducible repeat (first | refine zgq ?_ _ | refine zhq ?_ | refine ziq ?_ _)); exact BK362.out)) : gb368 ≠ gb362))
       clear BK361
       clear BK362
       clear HB
       have BK361 := n0_
       have BK362 := n1_
       have HB := n2_
       have BK368 := n3_
       have GW368 := n4_
       have GE368 := n5_
       have NB361_368 := n6_
       have NB368_361 := n7_
       have NB362_368 := n8_
       have NB368_362 := n9_
       clear n0_ n1_ n2_ n3_ n4_ n5_ n6_ n7_ n8_ n9_
       clear hb hbox hg
       refine hK.out _ _ ⟨(zmq BK361.out 0).trans rfl, (zmq BK361.out 1).trans rfl⟩ (fun hHeld => ?_)
       clear hK K
       refine norm_ (a' := ?_) ?_ ?_
       rotate_left
       ·
        show Act.put _ (some 6) _ = _
        simp only [Act.put, List.setIfInBounds_toArray, List.set_cons_zero, List.set_cons_succ, i64_w, i32_w]
        rfl
       exact norm_ (by first | (simp only [putAll, Act.put, List.setIfInBounds_toArray, List.set_cons_zero, List.set_cons_succ]; done) | (simp only [putAll, Act.put, List.setIfInBounds_toArray, List.set_cons_zero, List.set_cons_succ]; rfl)) (hJ3_7_9 (gb368) _ ⟨hHeld, (by (with_reducible repeat (first | refine zgq ?_ _ | refine zhq ?_ | refine ziq ?_ _)); exact BK361.out), (by (with_reducible repeat (first | refine zgq ?_ _ | refine zhq ?_ | refine ziq ?_ _)); exact BK362.out), (by (with_reducible repeat (first | refine zgq ?_ _ | refine zhq ?_ | refine ziq ?_ _)); exact BK368.out), GW368.out, GE368.out, NB361_368.out, NB368_361.out, NB362_368.out, NB368_362.out, (by repeat (first | (with_reducible first | exact HB.out | apply zaq | apply zbq | apply zcq | refine zdq ?_ GE361.out | refine zdq ?_ GE362.out | refine zdq ?_ GE368.out) | exact HB.out))⟩)
    ·
     skip
     rintro ⟨gb367, gb368⟩ w12 ⟨hS_, h0_, h1_, h2_, h3_, h4_, h5_, h6_, h7_, h8_, h9_, h10_, h11_, h12_, h13_, h14_, h15_, h16_, h17_, h18_⟩
     have n0_ : Aside0 (w12.heap[gb361]? = some (.cells #[.int .u64 a0_0, .int .u64 a0_1] 24 (0, 0))) := ⟨h0_⟩
     have n1_ : Aside0 (w12.heap[gb362]? = some (.cells #[.int .u64 0, .int .u64 0, .int .u64 0] 69 (0, 0))) := ⟨h1_⟩
     have n2_ : Aside0 (w12.heap[gb367]? = some (.cells #[.int .u64 0, .int .u64 0] 24 (0, 0))) := ⟨h2_⟩
     have n3_ : Aside0 (w12.heap[gb368]? = some (.cells #[.int .u64 0, .int .u64 0] 24 (0, 0))) := ⟨h3_⟩
     have n4_ : Aside0 (w.heap.size ≤ gb367) := ⟨h4_⟩
     have n5_ : Aside0 (w.heap.size ≤ gb367) := ⟨h5_⟩
     have n6_ : Aside0 (gb361 ≠ gb367) := ⟨h6_⟩
     have n7_ : Aside0 (gb367 ≠ gb361) := ⟨h7_⟩
     have n8_ : Aside0 (gb362 ≠ gb367) := ⟨h8_⟩
     have n9_ : Aside0 (gb367 ≠ gb362) := ⟨h9_⟩
     have n10_ : Aside0 (gb368 ≠ gb367) := ⟨h10_⟩
     have n11_ : Aside0 (gb367 ≠ gb368) := ⟨h11_⟩
     have n12_ : Aside0 (w.heap.size ≤ gb368) := ⟨h12_⟩
     have n13_ : Aside0 (w.heap.size ≤ gb368) := ⟨h13_⟩
     have n14_ : Aside0 (gb361 ≠ gb368) := ⟨h14_⟩
     have n15_ : Aside0 (gb368 ≠ gb361) := ⟨h15_⟩
     have n16_ : Aside0 (gb362 ≠ gb368) := ⟨h16_⟩
     have n17_ : Aside0 (gb368 ≠ gb362) := ⟨h17_⟩
     have n18_ : Aside0 (Below w.heap.size w w12) := ⟨h18_⟩
     clear BK361
     clear BK362
     clear HB
     clear h0_ h1_ h2_ h3_ h4_ h5_ h6_ h7_ h8_ h9_ h10_ h11_ h12_ h13_ h14_ h15_ h16_ h17_ h18_
     have BK361 := n0_
     have BK362 := n1_
     have BK367 := n2_
     have BK368 := n3_
     have GW367 := n4_
     have GE367 := n5_
     have NB361_367 := n6_
     have NB367_361 := n7_
     have NB362_367 := n8_
     have NB367_362 := n9_
     have NB368_367 := n10_
     have NB367_368 := n11_
     have GW368 := n12_
     have GE368 := n13_
     have NB361_368 := n14_
     have NB368_361 := n15_
     have NB362_368 := n16_
     have NB368_362 := n17_
     have HB := n18_
     clear n0_ n1_ n2_ n3_ n4_ n5_ n6_ n7_ n8_ n9_ n10_ n11_ n12_ n13_ n14_ n15_ n16_ n17_ n18_
     have hHeld : w12.cell? ⟨gb361, 0, none⟩ = some (.int .u64 a0_0) ∧ w12.cell? ⟨gb361, 1, none⟩ = some (.int .u64 a0_1) := hS_
     refine norm_ (a' := ?_) ?_ ?_
     rotate_left
     ·
      simp only [putAll, Act.put, List.setIfInBounds_toArray, List.set_cons_zero, List.set_cons_succ]
      rfl
     refine one_ (i := 7) (N := some 16) #[true, true, true, true, true, true, true, true, true, true, false, false] rfl rfl (one_of HT_.out (by kernel_rfl)) (by decide) (fun K hK => ?_)
     refine goes_ Try.func46 (by kernel_rfl) rfl #[.int .u64 a0_0, .int .u64 a1] (by rfl) rfl rfl (by (try simp only [List.map_toArray, List.map_cons, List.map_nil]); first | done | rfl | (simp only [List.length_drop, List.length_take]; rfl)) ?_
     with_reducible refine (wide_Mul.calls a0_0 a1 t365 t366 _ A4.out).mono ?_
     rintro e w13 ⟨rfl, hb⟩
     refine ⟨_, rfl, ?_⟩
     have n0_ := zA (zlq (g := gb361) (o := .cells #[.int .u64 a0_0, .int .u64 a0_1] 24 (0, 0)) (by (with_reducible repeat (first | refine zgq ?_ _ | refine zhq ?_ | refine ziq ?_ _)); exact BK361.out) hb)
     have n1_ := zA (zlq (g := gb362) (o := .cells #[.int .u64 0, .int .u64 0, .int .u64 0] 69 (0, 0)) (by (with_reducible repeat (first | refine zgq ?_ _ | refine zhq ?_ | refine ziq ?_ _)); exact BK362.out) hb)
     have n2_ := zA (zlq (g := gb367) (o := .cells #[.int .u64 0, .int .u64 0] 24 (0, 0)) (by (with_reducible repeat (first | refine zgq ?_ _ | refine zhq ?_ | refine ziq ?_ _)); exact BK367.out) hb)
     have n3_ := zA (zlq (g := gb368) (o := .cells #[.int .u64 0, .int .u64 0] 24 (0, 0)) (by (with_reducible repeat (first | refine zgq ?_ _ | refine zhq ?_ | refine ziq ?_ _)); exact BK368.out) hb)
     have n4_ := zA (zeq (by repeat (first | (with_reducible first | exact HB.out | apply zaq | apply zbq | apply zcq | refine zdq ?_ GE361.out | refine zdq ?_ GE362.out | refine zdq ?_ GE367.out | refine zdq ?_ GE368.out) | exact HB.out)) hb)
     clear BK361
     clear BK362
     clear BK367
     clear BK368
     clear HB
     have BK361 := n0_
     have BK362 := n1_
     have BK367 := n2_
     have BK368 := n3_
     have HB := n4_
     clear n0_ n1_ n2_ n3_ n4_
     (try clear hb)
     (try clear hb2)
     (try clear hk)
     (try clear hi)
     refine hK.out _ _ ⟨(zmq BK361.out 0).trans rfl, (zmq BK361.out 1).trans rfl⟩ (fun hHeld => ?_)
     clear hK K
     refine norm_ (a' := ?_) ?_ ?_
     rotate_left
     ·
      show Act.put _ (some 16) _ = _
      simp only [Act.put, List.setIfInBounds_toArray, List.set_cons_zero, List.set_cons_succ, i64_w, i32_w]
      rfl
     exact norm_ (by first | (simp only [putAll, Act.put, List.setIfInBounds_toArray, List.set_cons_zero, List.set_cons_succ]; done) | (simp only [putAll, Act.put, List.setIfInBounds_toArray, List.set_cons_zero, List.set_cons_succ]; rfl)) (hJ3_7_8_9 (gb367, gb368) _ ⟨hHeld, (by (with_reducible repeat (first | refine zgq ?_ _ | refine zhq ?_ | refine ziq ?_ _)); exact BK361.out), (by (with_reducible repeat (first | refine zgq ?_ _ | refine zhq ?_ | refine ziq ?_ _)); exact BK362.out), (by (with_reducible repeat (first | refine zgq ?_ _ | refine zhq ?_ | refine ziq ?_ _)); exact BK367.out), (by (with_reducible repeat (first | refine zgq ?_ _ | refine zhq ?_ | refine ziq ?_ _)); exact BK368.out), GW367.out, GE367.out, NB361_367.out, NB367_361.out, NB362_367.out, NB367_362.out, NB368_367.out, NB367_368.out, GW368.out, GE368.out, NB361_368.out, NB368_361.out, NB362_368.out, NB368_362.out, (by repeat (first | (with_reducible first | exact HB.out | apply zaq | apply zbq | apply zcq | refine zdq ?_ GE361.out | refine zdq ?_ GE362.out | refine zdq ?_ GE367.out | refine zdq ?_ GE368.out) | exact HB.out))⟩)
   ·
    skip
    rintro gb368 w12 ⟨hS_, h0_, h1_, h2_, h3_, h4_, h5_, h6_, h7_, h8_, h9_⟩
    have n0_ : Aside0 (w12.heap[gb361]? = some (.cells #[.int .u64 a0_0, .int .u64 a0_1] 24 (0, 0))) := ⟨h0_⟩
    have n1_ : Aside0 (w12.heap[gb362]? = some (.cells #[.int .u64 0, .int .u64 0, .int .u64 0] 69 (0, 0))) := ⟨h1_⟩
    have n2_ : Aside0 (w12.heap[gb368]? = some (.cells #[.int .u64 0, .int .u64 0] 24 (0, 0))) := ⟨h2_⟩
    have n3_ : Aside0 (w.heap.size ≤ gb368) := ⟨h3_⟩
    have n4_ : Aside0 (w.heap.size ≤ gb368) := ⟨h4_⟩
    have n5_ : Aside0 (gb361 ≠ gb368) := ⟨h5_⟩
    have n6_ : Aside0 (gb368 ≠ gb361) := ⟨h6_⟩
    have n7_ : Aside0 (gb362 ≠ gb368) := ⟨h7_⟩
    have n8_ : Aside0 (gb368 ≠ gb362) := ⟨h8_⟩
    have n9_ : Aside0 (Below w.heap.size w w12) := ⟨h9_⟩
    clear BK361
    clear BK362
    clear HB
    clear h0_ h1_ h2_ h3_ h4_ h5_ h6_ h7_ h8_ h9_
    have BK361 := n0_
    have BK362 := n1_
    have BK368 := n2_
    have GW368 := n3_
    have GE368 := n4_
    have NB361_368 := n5_
    have NB368_361 := n6_
    have NB362_368 := n7_
    have NB368_362 := n8_
    have HB := n9_
    clear n0_ n1_ n2_ n3_ n4_ n5_ n6_ n7_ n8_ n9_
    have hHeld : w12.cell? ⟨gb361, 0, none⟩ = some (.int .u64 a0_0) ∧ w12.cell? ⟨gb361, 1, none⟩ = some (.int .u64 a0_1) := hS_
    refine norm_ (a' := ?_) ?_ ?_
    rotate_left
    ·
     simp only [putAll, Act.put, List.setIfInBounds_toArray, List.set_cons_zero, List.set_cons_succ]
     rfl
    refine one_ (i := 8) (N := some 5) #[true, true, true, true, true, true, true, true, true, true, false, false] rfl rfl (one_of HT_.out (by kernel_rfl)) (by decide) (fun K hK => ?_)
    refine box_step ?hg (N := 5) ?hd (cs := #[.int .u64 0, .int .u64 0]) (t := 24) ?hr ?_; (case hd => rfl); (case hg => rfl); (case hr => first | (go_simp; done) | (go_simp; rfl))
    intro gb367 hg w13 hbox hb
    have n0_ := zA (zlq (g := gb361) (o := .cells #[.int .u64 a0_0, .int .u64 a0_1] 24 (0, 0)) (by (with_reducible repeat (first | refine zgq ?_ _ | refine zhq ?_ | refine ziq ?_ _)); exact BK361.out) hb)
    have n1_ := zA (zlq (g := gb362) (o := .cells #[.int .u64 0, .int .u64 0, .int .u64 0] 69 (0, 0)) (by (with_reducible repeat (first | refine zgq ?_ _ | refine zhq ?_ | refine ziq ?_ _)); exact BK362.out) hb)
    have n2_ := zA (zlq (g := gb368) (o := .cells #[.int .u64 0, .int .u64 0] 24 (0, 0)) (by (with_reducible repeat (first | refine zgq ?_ _ | refine zhq ?_ | refine ziq ?_ _)); exact BK368.out) hb)
    have n3_ := zA (zeq (by repeat (first | (with_reducible first | exact HB.out | apply zaq | apply zbq | apply zcq | refine zdq ?_ GE361.out | refine zdq ?_ GE362.out | refine zdq ?_ GE368.out) | exact HB.out)) hb)
    have n4_ := zA (hbox)
    have n5_ := zA ((by rw [hg]; exact (zfq (by repeat (first | (with_reducible first | exact HB.out | apply zaq | apply zbq | apply zcq | refine zdq ?_ GE361.out | refine zdq ?_ GE362.out | refine zdq ?_ GE368.out) | exact HB.out))) : w.heap.size ≤ gb367))
    have n6_ := zA ((by rw [hg]; exact (zfq (by repeat (first | (with_reducible first | exact HB.out | apply zaq | apply zbq | apply zcq | refine zdq ?_ GE361.out | refine zdq ?_ GE362.out | refine zdq ?_ GE368.out) | exact HB.out))) : w.heap.size ≤ gb367))
    have n7_ := zA ((by rw [hg]; exact Nat.ne_of_lt (blk_lt (g := gb361) (o := .cells #[.int .u64 a0_0, .int .u64 a0_1] 24 (0, 0)) (by (with_reducible repeat (first | refine zgq ?_ _ | refine zhq ?_ | refine ziq ?_ _)); exact BK361.out)) : gb361 ≠ gb367))
    have n8_ := zA ((by rw [hg]; exact Nat.ne_of_gt (blk_lt (g := gb361) (o := .cells #[.int .u64 a0_0, .int .u64 a0_1] 24 (0, 0)) (by (with_reducible repeat (first | refine zgq ?_ _ | refine zhq ?_ | refine ziq ?_ _)); exact BK361.out)) : gb367 ≠ gb361))
    have n9_ := zA ((by rw [hg]; exact Nat.ne_of_lt (blk_lt (g := gb362) (o := .cells #[.int .u64 0, .int .u64 0, .int .u64 0] 69 (0, 0)) (by (with_reducible repeat (first | refine zgq ?_ _ | refine zhq ?_ | refine ziq ?_ _)); exact BK362.out)) : gb362 ≠ gb367))
    have n10_ := zA ((by rw [hg]; exact Nat.ne_of_gt (blk_lt (g := gb362) (o := .cells #[.int .u64 0, .int .u64 0, .int .u64 0] 69 (0, 0)) (by (with_reducible repeat (first | refine zgq ?_ _ | refine zhq ?_ | refine ziq ?_ _)); exact BK362.out)) : gb367 ≠ gb362))
    have n11_ := zA ((by rw [hg]; exact Nat.ne_of_lt (blk_lt (g := gb368) (o := .cells #[.int .u64 0, .int .u64 0] 24 (0, 0)) (by (with_reducible repeat (first | refine zgq ?_ _ | refine zhq ?_ | refine ziq ?_ _)); exact BK368.out)) : gb368 ≠ gb367))
    have n12_ := zA ((by rw [hg]; exact Nat.ne_of_gt (blk_lt (g := gb368) (o := .cells #[.int .u64 0, .int .u64 0] 24 (0, 0)) (by (with_reducible repeat (first | refine zgq ?_ _ | refine zhq ?_ | refine ziq ?_ _)); exact BK368.out)) : gb367 ≠ gb368))
    clear BK361
    clear BK362
    clear BK368
    clear HB
    have BK361 := n0_
    have BK362 := n1_
    have BK368 := n2_
    have HB := n3_
    have BK367 := n4_
    have GW367 := n5_
    have GE367 := n6_
    have NB361_367 := n7_
    have NB367_361 := n8_
    have NB362_367 := n9_
    have NB367_362 := n10_
    have NB368_367 := n11_
    have NB367_368 := n12_
    clear n0_ n1_ n2_ n3_ n4_ n5_ n6_ n7_ n8_ n9_ n10_ n11_ n12_
    clear hb hbox hg
    refine hK.out _ _ ⟨(zmq BK361.out 0).trans rfl, (zmq BK361.out 1).trans rfl⟩ (fun hHeld => ?_)
    clear hK K
    refine norm_ (a' := ?_) ?_ ?_
    rotate_left
    ·
     show Act.put _ (some 5) _ = _
     simp only [Act.put, List.setIfInBounds_toArray, List.set_cons_zero, List.set_cons_succ, i64_w, i32_w]
     rfl
    exact norm_ (by first | (simp only [putAll, Act.put, List.setIfInBounds_toArray, List.set_cons_zero, List.set_cons_succ]; done) | (simp only [putAll, Act.put, List.setIfInBounds_toArray, List.set_cons_zero, List.set_cons_succ]; rfl)) (hJ3_7_8_9 (gb367, gb368) _ ⟨hHeld, (by (with_reducible repeat (first | refine zgq ?_ _ | refine zhq ?_ | refine ziq ?_ _)); exact BK361.out), (by (with_reducible repeat (first | refine zgq ?_ _ | refine zhq ?_ | refine ziq ?_ _)); exact BK362.out), (by (with_reducible repeat (first | refine zgq ?_ _ | refine zhq ?_ | refine ziq ?_ _)); exact BK367.out), (by (with_reducible repeat (first | refine zgq ?_ _ | refine zhq ?_ | refine ziq ?_ _)); exact BK368.out), GW367.out, GE367.out, NB361_367.out, NB367_361.out, NB362_367.out, NB367_362.out, NB368_367.out, NB367_368.out, GW368.out, GE368.out, NB361_368.out, NB368_361.out, NB362_368.out, NB368_362.out, (by repeat (first | (with_reducible first | exact HB.out | apply zaq | apply zbq | apply zcq | refine zdq ?_ GE361.out | refine zdq ?_ GE362.out | refine zdq ?_ GE368.out | refine zdq ?_ GE367.out) | exact HB.out))⟩)
  ·
   skip
   rintro gb367 w12 ⟨hS_, h0_, h1_, h2_, h3_, h4_, h5_, h6_, h7_, h8_, h9_⟩
   have n0_ : Aside0 (w12.heap[gb361]? = some (.cells #[.int .u64 a0_0, .int .u64 a0_1] 24 (0, 0))) := ⟨h0_⟩
   have n1_ : Aside0 (w12.heap[gb362]? = some (.cells #[.int .u64 0, .int .u64 0, .int .u64 0] 69 (0, 0))) := ⟨h1_⟩
   have n2_ : Aside0 (w12.heap[gb367]? = some (.cells #[.int .u64 0, .int .u64 0] 24 (0, 0))) := ⟨h2_⟩
   have n3_ : Aside0 (w.heap.size ≤ gb367) := ⟨h3_⟩
   have n4_ : Aside0 (w.heap.size ≤ gb367) := ⟨h4_⟩
   have n5_ : Aside0 (gb361 ≠ gb367) := ⟨h5_⟩
   have n6_ : Aside0 (gb367 ≠ gb361) := ⟨h6_⟩
   have n7_ : Aside0 (gb362 ≠ gb367) := ⟨h7_⟩
   have n8_ : Aside0 (gb367 ≠ gb362) := ⟨h8_⟩
   have n9_ : Aside0 (Below w.heap.size w w12) := ⟨h9_⟩
   clear BK361
   clear BK362
   clear HB
   clear h0_ h1_ h2_ h3_ h4_ h5_ h6_ h7_ h8_ h9_
   have BK361 := n0_
   have BK362 := n1_
   have BK367 := n2_
   have GW367 := n3_
   have GE367 := n4_
   have NB361_367 := n5_
   have NB367_361 := n6_
   have NB362_367 := n7_
   have NB367_362 := n8_
   have HB := n9_
   clear n0_ n1_ n2_ n3_ n4_ n5_ n6_ n7_ n8_ n9_
   have hHeld : w12.cell? ⟨gb361, 0, none⟩ = some (.int .u64 a0_0) ∧ w12.cell? ⟨gb361, 1, none⟩ = some (.int .u64 a0_1) := hS_
   refine norm_ (a' := ?_) ?_ ?_
   rotate_left
   ·
    simp only [putAll, Act.put, List.setIfInBounds_toArray, List.set_cons_zero, List.set_cons_succ]
    rfl
   refine one_ (i := 9) (N := some 6) #[true, true, true, true, true, true, true, true, true, true, false, false] rfl rfl (one_of HT_.out (by kernel_rfl)) (by decide) (fun K hK => ?_)
   refine box_step ?hg (N := 6) ?hd (cs := #[.int .u64 0, .int .u64 0]) (t := 24) ?hr ?_; (case hd => rfl); (case hg => rfl); (case hr => first | (go_simp; done) | (go_simp; rfl))
   intro gb368 hg w13 hbox hb
   have n0_ := zA (zlq (g := gb361) (o := .cells #[.int .u64 a0_0, .int .u64 a0_1] 24 (0, 0)) (by (with_reducible repeat (first | refine zgq ?_ _ | refine zhq ?_ | refine ziq ?_ _)); exact BK361.out) hb)
   have n1_ := zA (zlq (g := gb362) (o := .cells #[.int .u64 0, .int .u64 0, .int .u64 0] 69 (0, 0)) (by (with_reducible repeat (first | refine zgq ?_ _ | refine zhq ?_ | refine ziq ?_ _)); exact BK362.out) hb)
   have n2_ := zA (zlq (g := gb367) (o := .cells #[.int .u64 0, .int .u64 0] 24 (0, 0)) (by (with_reducible repeat (first | refine zgq ?_ _ | refine zhq ?_ | refine ziq ?_ _)); exact BK367.out) hb)
   have n3_ := zA (zeq (by repeat (first | (with_reducible first | exact HB.out | apply zaq | apply zbq | apply zcq | refine zdq ?_ GE361.out | refine zdq ?_ GE362.out | refine zdq ?_ GE367.out) | exact HB.out)) hb)
   have n4_ := zA (hbox)
   have n5_ := zA ((by rw [hg]; exact (zfq (by repeat (first | (with_reducible first | exact HB.out | apply zaq | apply zbq | apply zcq | refine zdq ?_ GE361.out | refine zdq ?_ GE362.out | refine zdq ?_ GE367.out) | exact HB.out))) : w.heap.size ≤ gb368))
   have n6_ := zA ((by rw [hg]; exact (zfq (by repeat (first | (with_reducible first | exact HB.out | apply zaq | apply zbq | apply zcq | refine zdq ?_ GE361.out | refine zdq ?_ GE362.out | refine zdq ?_ GE367.out) | exact HB.out))) : w.heap.size ≤ gb368))
   have n7_ := zA ((by rw [hg]; exact Nat.ne_of_lt (blk_lt (g := gb361) (o := .cells #[.int .u64 a0_0, .int .u64 a0_1] 24 (0, 0)) (by (with_reducible repeat (first | refine zgq ?_ _ | refine zhq ?_ | refine ziq ?_ _)); exact BK361.out)) : gb361 ≠ gb368))
   have n8_ := zA ((by rw [hg]; exact Nat.ne_of_gt (blk_lt (g := gb361) (o := .cells #[.int .u64 a0_0, .int .u64 a0_1] 24 (0, 0)) (by (with_reducible repeat (first | refine zgq ?_ _ | refine zhq ?_ | refine ziq ?_ _)); exact BK361.out)) : gb368 ≠ gb361))
   have n9_ := zA ((by rw [hg]; exact Nat.ne_of_lt (blk_lt (g := gb362) (o := .cells #[.int .u64 0, .int .u64 0, .int .u64 0] 69 (0, 0)) (by (with_reducible repeat (first | refine zgq ?_ _ | refine zhq ?_ | refine ziq ?_ _)); exact BK362.out)) : gb362 ≠ gb368))
   have n10_ := zA ((by rw [hg]; exact Nat.ne_of_gt (blk_lt (g := gb362) (o := .cells #[.int .u64 0, .int .u64 0, .int .u64 0] 69 (0, 0)) (by (with_reducible repeat (first | refine zgq ?_ _ | refine zhq ?_ | refine ziq ?_ _)); exact BK362.out)) : gb368 ≠ gb362))
   have n11_ := zA ((by rw [hg]; exact Nat.ne_of_lt (blk_lt (g := gb367) (o := .cells #[.int .u64 0, .int .u64 0] 24 (0, 0)) (by (with_reducible repeat (first | refine zgq ?_ _ | refine zhq ?_ | refine ziq ?_ _)); exact BK367.out)) : gb367 ≠ gb368))
   have n12_ := zA ((by rw [hg]; exact Nat.ne_of_gt (blk_lt (g := gb367) (o := .cells #[.int .u64 0, .int .u64 0] 24 (0, 0)) (by (with_reducible repeat (first | refine zgq ?_ _ | refine zhq ?_ | refine ziq ?_ _)); exact BK367.out)) : gb368 ≠ gb367))
   clear BK361
   clear BK362
   clear BK367
   clear HB
   have BK361 := n0_
   have BK362 := n1_
   have BK367 := n2_
   have HB := n3_
   have BK368 := n4_
   have GW368 := n5_
   have GE368 := n6_
   have NB361_368 := n7_
   have NB368_361 := n8_
   have NB362_368 := n9_
   have NB368_362 := n10_
   have NB367_368 := n11_
   have NB368_367 := n12_
   clear n0_ n1_ n2_ n3_ n4_ n5_ n6_ n7_ n8_ n9_ n10_ n11_ n12_
   clear hb hbox hg
   refine hK.out _ _ ⟨(zmq BK361.out 0).trans rfl, (zmq BK361.out 1).trans rfl⟩ (fun hHeld => ?_)
   clear hK K
   refine norm_ (a' := ?_) ?_ ?_
   rotate_left
   ·
    show Act.put _ (some 6) _ = _
    simp only [Act.put, List.setIfInBounds_toArray, List.set_cons_zero, List.set_cons_succ, i64_w, i32_w]
    rfl
   exact norm_ (by first | (simp only [putAll, Act.put, List.setIfInBounds_toArray, List.set_cons_zero, List.set_cons_succ]; done) | (simp only [putAll, Act.put, List.setIfInBounds_toArray, List.set_cons_zero, List.set_cons_succ]; rfl)) (hJ3_7_8_9 (gb367, gb368) _ ⟨hHeld, (by (with_reducible repeat (first | refine zgq ?_ _ | refine zhq ?_ | refine ziq ?_ _)); exact BK361.out), (by (with_reducible repeat (first | refine zgq ?_ _ | refine zhq ?_ | refine ziq ?_ _)); exact BK362.out), (by (with_reducible repeat (first | refine zgq ?_ _ | refine zhq ?_ | refine ziq ?_ _)); exact BK367.out), (by (with_reducible repeat (first | refine zgq ?_ _ | refine zhq ?_ | refine ziq ?_ _)); exact BK368.out), GW367.out, GE367.out, NB361_367.out, NB367_361.out, NB362_367.out, NB367_362.out, NB368_367.out, NB367_368.out, GW368.out, GE368.out, NB361_368.out, NB368_361.out, NB362_368.out, NB368_362.out, (by repeat (first | (with_reducible first | exact HB.out | apply zaq | apply zbq | apply zcq | refine zdq ?_ GE361.out | refine zdq ?_ GE362.out | refine zdq ?_ GE367.out | refine zdq ?_ GE368.out) | exact HB.out))⟩)
 rintro ⟨gb367, gb368⟩ w13 ⟨hS_, h0_, h1_, h2_, h3_, h4_, h5_, h6_, h7_, h8_, h9_, h10_, h11_, h12_, h13_, h14_, h15_, h16_, h17_, h18_⟩
 have n0_ : Aside0 (w13.heap[gb361]? = some (.cells #[.int .u64 a0_0, .int .u64 a0_1] 24 (0, 0))) := ⟨h0_⟩
 have n1_ : Aside0 (w13.heap[gb362]? = some (.cells #[.int .u64 0, .int .u64 0, .int .u64 0] 69 (0, 0))) := ⟨h1_⟩
 have n2_ : Aside0 (w13.heap[gb367]? = some (.cells #[.int .u64 0, .int .u64 0] 24 (0, 0))) := ⟨h2_⟩
 have n3_ : Aside0 (w13.heap[gb368]? = some (.cells #[.int .u64 0, .int .u64 0] 24 (0, 0))) := ⟨h3_⟩
 have n4_ : Aside0 (w.heap.size ≤ gb367) := ⟨h4_⟩
 have n5_ : Aside0 (w.heap.size ≤ gb367) := ⟨h5_⟩
 have n6_ : Aside0 (gb361 ≠ gb367) := ⟨h6_⟩
 have n7_ : Aside0 (gb367 ≠ gb361) := ⟨h7_⟩
 have n8_ : Aside0 (gb362 ≠ gb367) := ⟨h8_⟩
 have n9_ : Aside0 (gb367 ≠ gb362) := ⟨h9_⟩
 have n10_ : Aside0 (gb368 ≠ gb367) := ⟨h10_⟩
 have n11_ : Aside0 (gb367 ≠ gb368) := ⟨h11_⟩
 have n12_ : Aside0 (w.heap.size ≤ gb368) := ⟨h12_⟩
 have n13_ : Aside0 (w.heap.size ≤ gb368) := ⟨h13_⟩
 have n14_ : Aside0 (gb361 ≠ gb368) := ⟨h14_⟩
 have n15_ : Aside0 (gb368 ≠ gb361) := ⟨h15_⟩
 have n16_ : Aside0 (gb362 ≠ gb368) := ⟨h16_⟩
 have n17_ : Aside0 (gb368 ≠ gb362) := ⟨h17_⟩
 have n18_ : Aside0 (Below w.heap.size w w13) := ⟨h18_⟩
 clear BK361
 clear BK362
 clear HB
 clear h0_ h1_ h2_ h3_ h4_ h5_ h6_ h7_ h8_ h9_ h10_ h11_ h12_ h13_ h14_ h15_ h16_ h17_ h18_
 have BK361 := n0_
 have BK362 := n1_
 have BK367 := n2_
 have BK368 := n3_
 have GW367 := n4_
 have GE367 := n5_
 have NB361_367 := n6_
 have NB367_361 := n7_
 have NB362_367 := n8_
 have NB367_362 := n9_
 have NB368_367 := n10_
 have NB367_368 := n11_
 have GW368 := n12_
 have GE368 := n13_
 have NB361_368 := n14_
 have NB368_361 := n15_
 have NB362_368 := n16_
 have NB368_362 := n17_
 have HB := n18_
 clear n0_ n1_ n2_ n3_ n4_ n5_ n6_ n7_ n8_ n9_ n10_ n11_ n12_ n13_ n14_ n15_ n16_ n17_ n18_
 have hHeld : w13.cell? ⟨gb361, 0, none⟩ = some (.int .u64 a0_0) ∧ w13.cell? ⟨gb361, 1, none⟩ = some (.int .u64 a0_1) := hS_
 refine norm_ (a' := ?_) ?_ ?_
 rotate_left
 ·
  simp only [putAll, Act.put, List.setIfInBounds_toArray, List.set_cons_zero, List.set_cons_succ]
  rfl
 refine one_ (i := 10) (N := none) #[true, true, true, true, true, true, true, true, true, true, true, false] rfl rfl (one_of HT_.out (by kernel_rfl)) (by decide) (fun K hK => ?_)
 have hs14 : w13.cell? ⟨gb367, 0, none⟩ = some (.int .u64 0) := (zmq BK367.out 0).trans rfl
 have hfs14 := znq BK367.out 0
 have hns14_0 := NB361_367.out
 have hns14_1 := NB362_367.out
 have hns14_3 := NB368_367.out
 have hms14_0 := NB367_361.out
 have hms14_1 := NB367_362.out
 have hms14_3 := NB367_368.out
 have hs15 : w13.cell? ⟨gb367, 1, none⟩ = some (.int .u64 0) := (zmq BK367.out 1).trans rfl
 have hfs15 := znq BK367.out 1
 have hns15_0 := NB361_367.out
 have hns15_1 := NB362_367.out
 have hns15_3 := NB368_367.out
 have hms15_0 := NB367_361.out
 have hms15_1 := NB367_362.out
 have hms15_3 := NB367_368.out
 refine skip_ (w1 := ?_) (by rfl) rfl ?_ ?_
 rotate_left
 ·
  go_simp
  rfl
 refine hK.out _ _ ⟨((cell_far (p := ⟨gb367, _, none⟩) NB361_367.out _).trans (((cell_far (p := ⟨gb367, _, none⟩) NB361_367.out _).trans (hHeld.1)))), ((cell_far (p := ⟨gb367, _, none⟩) NB361_367.out _).trans (((cell_far (p := ⟨gb367, _, none⟩) NB361_367.out _).trans (hHeld.2))))⟩ (fun hHeld => ?_)
 clear hK K
 refine one_ (i := 11) (N := none) #[true, true, true, true, true, true, true, true, true, true, true, true] rfl rfl (one_of HT_.out (by kernel_rfl)) (by decide) (fun K hK => ?_)
 have hs16 : w13.cell? ⟨gb368, 0, none⟩ = some (.int .u64 0) := (zmq BK368.out 0).trans rfl
 have hfs16 := znq BK368.out 0
 have hns16_0 := NB361_368.out
 have hns16_1 := NB362_368.out
 have hns16_2 := NB367_368.out
 have hms16_0 := NB368_361.out
 have hms16_1 := NB368_362.out
 have hms16_2 := NB368_367.out
 have hs17 : w13.cell? ⟨gb368, 1, none⟩ = some (.int .u64 0) := (zmq BK368.out 1).trans rfl
 have hfs17 := znq BK368.out 1
 have hns17_0 := NB361_368.out
 have hns17_1 := NB362_368.out
 have hns17_2 := NB367_368.out
 have hms17_0 := NB368_361.out
 have hms17_1 := NB368_362.out
 have hms17_2 := NB368_367.out
 refine skip_ (w1 := ?_) (by rfl) rfl ?_ ?_
 rotate_left
 ·
  go_simp
  rfl
 refine hK.out _ _ ⟨((cell_far (p := ⟨gb368, _, none⟩) NB361_368.out _).trans (((cell_far (p := ⟨gb368, _, none⟩) NB361_368.out _).trans (hHeld.1)))), ((cell_far (p := ⟨gb368, _, none⟩) NB361_368.out _).trans (((cell_far (p := ⟨gb368, _, none⟩) NB361_368.out _).trans (hHeld.2))))⟩ (fun hHeld => ?_)
 clear hK K
 refine done_ (done_of HT_.out (by kernel_rfl)) ?_
 have hnb18 := NB367_361.out
 have hnc18 := NB361_367.out
 have hnb19 := NB367_362.out
 have hnc19 := NB362_367.out
 have hnb20 := NB367_368.out
 have hnc20 := NB368_367.out
 have hcz21_0 : w13.cell? ⟨gb367, 0, none⟩ = some (.int .u64 0) := (zmq BK367.out 0).trans rfl
 have hcz21_1 : w13.cell? ⟨gb367, 1, none⟩ = some (.int .u64 0) := (zmq BK367.out 1).trans rfl
 have hfz21_0 := znq BK367.out 0
 have hfz21_1 := znq BK367.out 1
 have hnb22 := NB368_361.out
 have hnc22 := NB361_368.out
 have hnb23 := NB368_362.out
 have hnc23 := NB362_368.out
 have hcz24_0 : w13.cell? ⟨gb368, 0, none⟩ = some (.int .u64 0) := (zmq BK368.out 0).trans rfl
 have hcz24_1 : w13.cell? ⟨gb368, 1, none⟩ = some (.int .u64 0) := (zmq BK368.out 1).trans rfl
 have hfz24_0 := znq BK368.out 0
 have hfz24_1 := znq BK368.out 1
 try go_wp2_with (first | ((with_reducible refine zoq (f := 81) rfl ?_); refine goesX_ (some 22) rfl rfl #[.int .u64 t363, .int .u64 t366, .int .u64 0] rfl (by (try simp only [List.map_toArray, List.map_cons, List.map_nil]); first | done | rfl) (bits_Add64.run t363 t366 0 t369 t370 _ A5.out) ?_; have hnb25 := NB362_361.out; have hnc25 := NB361_362.out; have hcz26_0 : w13.cell? ⟨gb362, 0, none⟩ = some (.int .u64 0) := (zmq BK362.out 0).trans rfl; have hcz26_1 : w13.cell? ⟨gb362, 1, none⟩ = some (.int .u64 0) := (zmq BK362.out 1).trans rfl; have hcz26_2 : w13.cell? ⟨gb362, 2, none⟩ = some (.int .u64 0) := (zmq BK362.out 2).trans rfl; have hfz26_0 := znq BK362.out 0; have hfz26_1 := znq BK362.out 1; have hfz26_2 := znq BK362.out 2))
 refine bodyPost_ret (results_cell_row rfl _ _ gb362 69 #[.int .u64 (IntKind.u64.wrap (t365 + t370)), .int .u64 t369, .int .u64 t364] (0, 0) _ rfl (by (with_reducible repeat (first | refine zgq ?_ _ | refine zhq ?_ | refine ziq ?_ _)); refine zkq (cs := #[.int .u64 (IntKind.u64.wrap (t365 + t370)), .int .u64 t369, .int .u64 0]) ?_ 2 _ rfl; (with_reducible repeat (first | refine zgq ?_ _ | refine zhq ?_ | refine ziq ?_ _)); refine zkq (cs := #[.int .u64 (IntKind.u64.wrap (t365 + t370)), .int .u64 0, .int .u64 0]) ?_ 1 _ rfl; (with_reducible repeat (first | refine zgq ?_ _ | refine zhq ?_ | refine ziq ?_ _)); refine zkq (cs := #[.int .u64 0, .int .u64 0, .int .u64 0]) ?_ 0 _ rfl; (with_reducible repeat (first | refine zgq ?_ _ | refine zhq ?_ | refine ziq ?_ _)); refine zjq ?_ NB362_368.out _; (with_reducible repeat (first | refine zgq ?_ _ | refine zhq ?_ | refine ziq ?_ _)); refine zjq ?_ NB362_368.out _; (with_reducible repeat (first | refine zgq ?_ _ | refine zhq ?_ | refine ziq ?_ _)); refine zjq ?_ NB362_367.out _; (with_reducible repeat (first | refine zgq ?_ _ | refine zhq ?_ | refine ziq ?_ _)); refine zjq ?_ NB362_367.out _; (with_reducible repeat (first | refine zgq ?_ _ | refine zhq ?_ | refine ziq ?_ _)); exact BK362.out) Try.underlying69 rfl (by kernel_rfl)) rfl ?_
 exact ⟨by first | rfl | (simp [errW_none, errW_some] <;> rfl) | (simp [*, errW_none, errW_some] <;> rfl), by repeat (first | (with_reducible first | exact HB.out | apply zaq | apply zbq | apply zcq | refine zdq ?_ GE361.out | refine zdq ?_ GE362.out | refine zdq ?_ GE367.out | refine zdq ?_ GE368.out) | exact HB.out)⟩

end Go.Proofs.Ytbejjlecpcphoaa.P
