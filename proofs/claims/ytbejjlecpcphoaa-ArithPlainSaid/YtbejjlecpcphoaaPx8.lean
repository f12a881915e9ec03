-- Written by a program of this session's (a turned print), not by hand.
import Derived.Test.YtbejjlecpcphoaaPx0
import Derived.Test.YtbejjlecpcphoaaPx3
import Derived.Test.YtbejjlecpcphoaaPx4
import Derived.Test.YtbejjlecpcphoaaPx7
namespace Go.Proofs.Ytbejjlecpcphoaa.P
open Go.RowKit Go.Proofs.YtbejjlecpcphoaaW.PrintWords Go.Proofs.YtbejjlecpcphoaaW.PrintLast Go.Proofs.YtbejjlecpcphoaaW.PrintMore
attribute [local go_sem] max2_int min2_int max_two min_two max_three min_three max_four min_four   -- for this text's walks alone
set_option linter.unusedVariables false
set_option linter.unusedSimpArgs false

/-! ### float_Join: function 20: by hand -/
/-- What settle does with the function literal of Join. -/
def float_settle.f (k : Nat) (neg : Bool) (long : Int) (e : Int) (more : Bool) (hi : Int) (lo : Int) : Option Int :=
 (float_far.f k neg long e).bind fun x => if x.2 = true then some x.1 else
  ((float_unit.f long e).bind fun u => ((float_Join_1.f k (wrap64 (u - e)) hi lo).bind fun d =>
   if d.2.1 = true then (if d.2.2.1 = true then (float_pack.f k neg (IntKind.u64.wrap (d.1 + 1)) u) else (if more = true then (float_pack.f k neg (IntKind.u64.wrap (d.1 + 1)) u) else (if Go.bits .and .u64 d.1 1 = 1 then (float_pack.f k neg (IntKind.u64.wrap (d.1 + 1)) u) else (float_pack.f k neg d.1 u)))) else (float_pack.f k neg d.1 u)))
theorem float_settle.mono : ∀ a0 a1 a2 a3 a4 a5 k, LeO (float_settle.f k a0 a1 a2 a3 a4 a5) (float_settle.f (k + 1) a0 a1 a2 a3 a4 a5) := by
 intro a0 a1 a2 a3 a4 a5 k
 unfold float_settle.f
 refine LeO.bind (float_far.mono _ _ _ _) (fun _ => LeO.ite (LeO.refl _) (LeO.bind (LeO.refl _) (fun _ => LeO.bind (float_Join_1.mono _ _ _ _) (fun _ => ?_))))
 exact LeO.ite (LeO.ite (float_pack.mono _ _ _ _) (LeO.ite (float_pack.mono _ _ _ _) (LeO.ite (float_pack.mono _ _ _ _) (float_pack.mono _ _ _ _)))) (float_pack.mono _ _ _ _)
/-- Join: the number nearest. -/
def float_Join.f (k : Nat) (a0 : Bool) (a1_0 : Int) (a1_1 : Int) (a2 : Int) (a3 : Bool) : Option Int :=
 (wide_Len.f k a1_0 a1_1).bind fun long => float_settle.f k a0 long a2 a3 a1_0 a1_1
theorem float_Join.mono : ∀ a0 a1 a2 a3 a4 k, LeO (float_Join.f k a0 a1 a2 a3 a4) (float_Join.f (k + 1) a0 a1 a2 a3 a4) := by
 intro a0 a1 a2 a3 a4 k
 unfold float_Join.f
 exact LeO.bind (wide_Len.mono _ _ _) (fun _ => float_settle.mono _ _ _ _ _ _ _)

set_option maxHeartbeats 8000000 in
set_option maxRecDepth 100000 in
theorem float_settle.calls (k : Nat) (neg : Bool) (long : Int) (e : Int) (more : Bool) (g : Nat) (hi : Int) (lo : Int) (r : Int) (w0 w : World) (hI : IsS24 w0 w g hi lo) (hB : Below w0.heap.size w0 w) (h : float_settle.f k neg long e more hi lo = some r) :
  Calls Try.prog 72 #[.bool neg, .int .i64 long, .int .i64 e, .bool more, .func (.func 73) #[] #[.pointer (some ⟨g, 0, none⟩)]] w fun e w' => e = .returned (.int .u64 r) ∧ Below w0.heap.size w0 w' := by
 have HI := zA hI
 have HB := zA hB
 clear hI hB
 unfold float_settle.f at h
 replace h := Option.bind_eq_some_iff.mp h
 obtain ⟨⟨x1, x2⟩, A0, h⟩ := h
 have AF := zA A0
 clear A0
 replace h : (if x2 = true then some x1 else
  ((float_unit.f long e).bind fun u => ((float_Join_1.f k (wrap64 (u - e)) hi lo).bind fun d =>
   if d.2.1 = true then (if d.2.2.1 = true then (float_pack.f k neg (IntKind.u64.wrap (d.1 + 1)) u) else (if more = true then (float_pack.f k neg (IntKind.u64.wrap (d.1 + 1)) u) else (if Go.bits .and .u64 d.1 1 = 1 then (float_pack.f k neg (IntKind.u64.wrap (d.1 + 1)) u) else (float_pack.f k neg d.1 u)))) else (float_pack.f k neg d.1 u)))) = some r := h
 by_cases c : x2 = true
 ·
  rw [if_pos c] at h
  subst c
  obtain rfl := Option.some.inj h
  go_enter Try.func72, Try.ntmps72
  go_wp2_with (go_at_call 99; (with_reducible refine (float_far.calls k neg long e x1 true _ AF.out).mono ?_); rintro e w' ⟨rfl, ⟨nd, rfl⟩⟩)
  go_ret
  exact ⟨rfl, by repeat (first | (with_reducible first | exact HB.out | apply zaq | apply zbq | apply zcq) | exact HB.out)⟩
 ·
  rw [if_neg c] at h
  have c' : x2 = false := by simpa using c
  subst c'
  clear c
  replace h := Option.bind_eq_some_iff.mp h
  obtain ⟨u, A0, h⟩ := h
  have AU := zA A0
  clear A0
  replace h := Option.bind_eq_some_iff.mp h
  obtain ⟨⟨d1, d2, d3, d4, d5⟩, A0, h⟩ := h
  have AD := zA A0
  clear A0
  replace h : (if d2 = true then (if d3 = true then (float_pack.f k neg (IntKind.u64.wrap (d1 + 1)) u) else (if more = true then (float_pack.f k neg (IntKind.u64.wrap (d1 + 1)) u) else (if Go.bits .and .u64 d1 1 = 1 then (float_pack.f k neg (IntKind.u64.wrap (d1 + 1)) u) else (float_pack.f k neg d1 u)))) else (float_pack.f k neg d1 u)) = some r := h
  cases d2 with
  | false =>
   rw [if_neg (by simp)] at h
   have AP := zA h
   clear h
   go_enter Try.func72, Try.ntmps72
   go_wp2_with (first | (go_at_call 99; (with_reducible refine (float_far.calls k neg long e x1 false _ AF.out).mono ?_); rintro e9 w9 ⟨rfl, ⟨nd, rfl⟩⟩) | (go_at_call 100; (with_reducible refine (float_unit.calls long e u _ AU.out).mono ?_); rintro e9 w9 ⟨rfl, hu⟩; have n0_ := zA (IsS24.below (by repeat (first | exact HI.out | apply IsS24.drewN)) hu); have n1_ := zA (zeq (by repeat (first | (with_reducible first | exact HB.out | apply zaq | apply zbq | apply zcq) | exact HB.out)) hu); clear hu HI HB; have HI := n0_; have HB := n1_; clear n0_ n1_) | (go_at_call 73; (with_reducible refine (float_Join_1.calls k (wrap64 (u - e)) g hi lo d1 _ _ d4 d5 w0 _ ?hI ?hB AD.out).mono ?_); (case hI => repeat (first | exact HI.out | apply IsS24.drewN)); (case hB => exact (by repeat (first | (with_reducible first | exact HB.out | apply zaq | apply zbq | apply zcq) | exact HB.out))); rintro e9 w9 ⟨rfl, hi2, hb2, hk2⟩; clear HB; have HB := zA hb2; clear hi2 hb2 hk2) | (go_at_call 101; (with_reducible refine (float_pack.calls k neg d1 u r _ AP.out).mono ?_); rintro e9 w9 ⟨rfl, ⟨nd3, rfl⟩⟩))
   go_ret
   exact ⟨rfl, by repeat (first | (with_reducible first | exact HB.out | apply zaq | apply zbq | apply zcq) | exact HB.out)⟩
  | true =>
   rw [if_pos rfl] at h
   cases d3 with
   | true =>
    rw [if_pos rfl] at h
    have AP := zA h
    clear h
    go_enter Try.func72, Try.ntmps72
    go_wp2_with (first | (go_at_call 99; (with_reducible refine (float_far.calls k neg long e x1 false _ AF.out).mono ?_); rintro e9 w9 ⟨rfl, ⟨nd, rfl⟩⟩) | (go_at_call 100; (with_reducible refine (float_unit.calls long e u _ AU.out).mono ?_); rintro e9 w9 ⟨rfl, hu⟩; have n0_ := zA (IsS24.below (by repeat (first | exact HI.out | apply IsS24.drewN)) hu); have n1_ := zA (zeq (by repeat (first | (with_reducible first | exact HB.out | apply zaq | apply zbq | apply zcq) | exact HB.out)) hu); clear hu HI HB; have HI := n0_; have HB := n1_; clear n0_ n1_) | (go_at_call 73; (with_reducible refine (float_Join_1.calls k (wrap64 (u - e)) g hi lo d1 _ _ d4 d5 w0 _ ?hI ?hB AD.out).mono ?_); (case hI => repeat (first | exact HI.out | apply IsS24.drewN)); (case hB => exact (by repeat (first | (with_reducible first | exact HB.out | apply zaq | apply zbq | apply zcq) | exact HB.out))); rintro e9 w9 ⟨rfl, hi2, hb2, hk2⟩; clear HB; have HB := zA hb2; clear hi2 hb2 hk2) | (go_at_call 101; (with_reducible refine (float_pack.calls k neg (IntKind.u64.wrap (d1 + 1)) u r _ AP.out).mono ?_); rintro e9 w9 ⟨rfl, ⟨nd3, rfl⟩⟩))
    go_ret
    exact ⟨rfl, by repeat (first | (with_reducible first | exact HB.out | apply zaq | apply zbq | apply zcq) | exact HB.out)⟩
   | false =>
    rw [if_neg (by simp)] at h
    cases more with
    | true =>
     rw [if_pos rfl] at h
     have AP := zA h
     clear h
     go_enter Try.func72, Try.ntmps72
     go_wp2_with (first | (go_at_call 99; (with_reducible refine (float_far.calls k neg long e x1 false _ AF.out).mono ?_); rintro e9 w9 ⟨rfl, ⟨nd, rfl⟩⟩) | (go_at_call 100; (with_reducible refine (float_unit.calls long e u _ AU.out).mono ?_); rintro e9 w9 ⟨rfl, hu⟩; have n0_ := zA (IsS24.below (by repeat (first | exact HI.out | apply IsS24.drewN)) hu); have n1_ := zA (zeq (by repeat (first | (with_reducible first | exact HB.out | apply zaq | apply zbq | apply zcq) | exact HB.out)) hu); clear hu HI HB; have HI := n0_; have HB := n1_; clear n0_ n1_) | (go_at_call 73; (with_reducible refine (float_Join_1.calls k (wrap64 (u - e)) g hi lo d1 _ _ d4 d5 w0 _ ?hI ?hB AD.out).mono ?_); (case hI => repeat (first | exact HI.out | apply IsS24.drewN)); (case hB => exact (by repeat (first | (with_reducible first | exact HB.out | apply zaq | apply zbq | apply zcq) | exact HB.out))); rintro e9 w9 ⟨rfl, hi2, hb2, hk2⟩; clear HB; have HB := zA hb2; clear hi2 hb2 hk2) | (go_at_call 101; (with_reducible refine (float_pack.calls k neg (IntKind.u64.wrap (d1 + 1)) u r _ AP.out).mono ?_); rintro e9 w9 ⟨rfl, ⟨nd3, rfl⟩⟩))
     go_ret
     exact ⟨rfl, by repeat (first | (with_reducible first | exact HB.out | apply zaq | apply zbq | apply zcq) | exact HB.out)⟩
    | false =>
     rw [if_neg (by simp)] at h
     by_cases co : Go.bits .and .u64 d1 1 = 1
     ·
      rw [if_pos co] at h
      have cb : (Go.bits .and .u64 d1 1 == 1) = true := beq_iff_eq.mpr co
      clear co
      have AP := zA h
      clear h
      go_enter Try.func72, Try.ntmps72
      go_wp2_with (first | (go_at_call 99; (with_reducible refine (float_far.calls k neg long e x1 false _ AF.out).mono ?_); rintro e9 w9 ⟨rfl, ⟨nd, rfl⟩⟩) | (go_at_call 100; (with_reducible refine (float_unit.calls long e u _ AU.out).mono ?_); rintro e9 w9 ⟨rfl, hu⟩; have n0_ := zA (IsS24.below (by repeat (first | exact HI.out | apply IsS24.drewN)) hu); have n1_ := zA (zeq (by repeat (first | (with_reducible first | exact HB.out | apply zaq | apply zbq | apply zcq) | exact HB.out)) hu); clear hu HI HB; have HI := n0_; have HB := n1_; clear n0_ n1_) | (go_at_call 73; (with_reducible refine (float_Join_1.calls k (wrap64 (u - e)) g hi lo d1 _ _ d4 d5 w0 _ ?hI ?hB AD.out).mono ?_); (case hI => repeat (first | exact HI.out | apply IsS24.drewN)); (case hB => exact (by repeat (first | (with_reducible first | exact HB.out | apply zaq | apply zbq | apply zcq) | exact HB.out))); rintro e9 w9 ⟨rfl, hi2, hb2, hk2⟩; clear HB; have HB := zA hb2; clear hi2 hb2 hk2) | (go_at_call 101; (with_reducible refine (float_pack.calls k neg (IntKind.u64.wrap (d1 + 1)) u r _ AP.out).mono ?_); rintro e9 w9 ⟨rfl, ⟨nd3, rfl⟩⟩))
      go_ret
      exact ⟨rfl, by repeat (first | (with_reducible first | exact HB.out | apply zaq | apply zbq | apply zcq) | exact HB.out)⟩
     ·
      rw [if_neg co] at h
      have cb : (Go.bits .and .u64 d1 1 == 1) = false := beq_eq_false_iff_ne.mpr co
      clear co
      have AP := zA h
      clear h
      go_enter Try.func72, Try.ntmps72
      go_wp2_with (first | (go_at_call 99; (with_reducible refine (float_far.calls k neg long e x1 false _ AF.out).mono ?_); rintro e9 w9 ⟨rfl, ⟨nd, rfl⟩⟩) | (go_at_call 100; (with_reducible refine (float_unit.calls long e u _ AU.out).mono ?_); rintro e9 w9 ⟨rfl, hu⟩; have n0_ := zA (IsS24.below (by repeat (first | exact HI.out | apply IsS24.drewN)) hu); have n1_ := zA (zeq (by repeat (first | (with_reducible first | exact HB.out | apply zaq | apply zbq | apply zcq) | exact HB.out)) hu); clear hu HI HB; have HI := n0_; have HB := n1_; clear n0_ n1_) | (go_at_call 73; (with_reducible refine (float_Join_1.calls k (wrap64 (u - e)) g hi lo d1 _ _ d4 d5 w0 _ ?hI ?hB AD.out).mono ?_); (case hI => repeat (first | exact HI.out | apply IsS24.drewN)); (case hB => exact (by repeat (first | (with_reducible first | exact HB.out | apply zaq | apply zbq | apply zcq) | exact HB.out))); rintro e9 w9 ⟨rfl, hi2, hb2, hk2⟩; clear HB; have HB := zA hb2; clear hi2 hb2 hk2) | (go_at_call 101; (with_reducible refine (float_pack.calls k neg d1 u r _ AP.out).mono ?_); rintro e9 w9 ⟨rfl, ⟨nd3, rfl⟩⟩))
      go_ret
      exact ⟨rfl, by repeat (first | (with_reducible first | exact HB.out | apply zaq | apply zbq | apply zcq) | exact HB.out)⟩

set_option maxHeartbeats 8000000 in
set_option maxRecDepth 100000 in
theorem float_Join.calls (k : Nat) (a0 : Bool) (a1_0 : Int) (a1_1 : Int) (a2 : Int) (a3 : Bool) (r : Int) (w : World) (h : float_Join.f k a0 a1_0 a1_1 a2 a3 = some r) :
  Calls Try.prog 20 #[.bool a0, .agg #[.int .u64 a1_0, .int .u64 a1_1], .int .i64 a2, .bool a3] w fun e w' => e = .returned (.int .u64 r) ∧ Below w.heap.size w w' := by
 have HB := zA (Below.refl w.heap.size w)
 unfold float_Join.f at h
 replace h := Option.bind_eq_some_iff.mp h
 obtain ⟨long, A0, h⟩ := h
 have AL := zA A0
 have AS := zA h
 clear A0 h
 go_enter Try.func20, Try.ntmps20
 go_wp2_with (first | ((with_reducible refine zpq (N := 5) rfl ?_); refine zqq ?hg (N := 5) ?hd (cs := #[.int .u64 a1_0, .int .u64 a1_1]) (t := 24) ?hr ?_; (case hd => rfl); (case hg => rfl); (case hr => first | (go_simp; done) | (go_simp; rfl)); intro gb hg w4 hbox hb; have n0_ := zA (zeq (by repeat (first | (with_reducible first | exact HB.out | apply zaq | apply zbq | apply zcq) | exact HB.out)) hb); have n1_ := zA (⟨hbox, by rw [hg]; exact (zfq (by repeat (first | (with_reducible first | exact HB.out | apply zaq | apply zbq | apply zcq) | exact HB.out)))⟩ : IsS24 w w4 gb a1_0 a1_1); clear HB; have HB := n0_; have HI := n1_; have hcz0 : w4.cell? ⟨gb, 0, none⟩ = some (.int .u64 a1_0) := (zmq hbox 0).trans rfl; have hcz1 : w4.cell? ⟨gb, 1, none⟩ = some (.int .u64 a1_1) := (zmq hbox 1).trans rfl; clear n0_ n1_; clear hb hbox hg) | (go_at_call 49; (with_reducible refine (wide_Len.calls k a1_0 a1_1 long _ AL.out).mono ?_); rintro e9 w9 ⟨rfl, hu⟩; have n0_ := zA (IsS24.below (by repeat (first | exact HI.out | apply IsS24.drewN)) hu); have n1_ := zA (zeq (by repeat (first | (with_reducible first | exact HB.out | apply zaq | apply zbq | apply zcq) | exact HB.out)) hu); clear hu HI HB; have HI := n0_; have HB := n1_; clear n0_ n1_) | (go_at_call 72; (with_reducible refine (float_settle.calls k a0 long a2 a3 _ a1_0 a1_1 r w _ ?hI ?hB AS.out).mono ?_); (case hI => repeat (first | exact HI.out | apply IsS24.drewN)); (case hB => exact (by repeat (first | (with_reducible first | exact HB.out | apply zaq | apply zbq | apply zcq) | exact HB.out))); rintro e9 w9 ⟨rfl, hu⟩; clear HB; have HB := zA hu; clear hu))
 go_ret
 exact ⟨rfl, by repeat (first | (with_reducible first | exact HB.out | apply zaq | apply zbq | apply zcq) | exact HB.out)⟩

end Go.Proofs.Ytbejjlecpcphoaa.P
