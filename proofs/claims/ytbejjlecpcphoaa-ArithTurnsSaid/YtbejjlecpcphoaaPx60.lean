-- Written by a program of this session's (a turned print), not by hand.
import Derived.Test.YtbejjlecpcphoaaPx0
import Derived.Test.YtbejjlecpcphoaaPx21
import Derived.Test.YtbejjlecpcphoaaPx47
import Derived.Test.YtbejjlecpcphoaaPx49
import Derived.Test.YtbejjlecpcphoaaPx50
namespace Go.Proofs.Ytbejjlecpcphoaa.P
open Go.RowKit Go.Proofs.YtbejjlecpcphoaaW.PrintWords Go.Proofs.YtbejjlecpcphoaaW.PrintLast Go.Proofs.YtbejjlecpcphoaaW.PrintMore
attribute [local go_sem] max2_int min2_int max_two min_two max_three min_three max_four min_four   -- for this text's walks alone
set_option linter.unusedVariables false
set_option linter.unusedSimpArgs false

/-! ### tabardlaw4_ArithTurns: function 17 -/
def tabardlaw4_ArithTurns.f (k : Nat) (a0 : Int) (a1 : Int) : Option (Bool) := (tabardlaw4_shown.f k).bind fun t950 => (if t950 = true then ((arith_Add.f k a0 a1).bind fun t951 => ((arith_Add.f k a1 a0).bind fun t952 => (if t951 = t952 then ((arith_Mul.f k a0 a1).bind fun t953 => ((arith_Mul.f k a1 a0).bind fun t954 => (if t953 = t954 then ((arith_Sub.f k a0 a1).bind fun t955 => ((arith_Sub.f k a1 a0).bind fun t956 => ((arith_Mul.f k a0 a1).bind fun t957 => ((tabardref3_Neg.f k a0).bind fun t958 => ((arith_Mul.f k t958 a1).bind fun t959 => (if t955 = 0 then (if t956 = 0 then ((tabardref3_Neg.f k t957).bind fun t960 => (some (t959 == t960))) else ((tabardref3_Neg.f k t956).bind fun t961 => (if t955 = t961 then ((tabardref3_Neg.f k t957).bind fun t962 => (some (t959 == t962))) else (if (Int.tmod t955 9223372036854775808) = 0 then (if (Int.tmod t956 9223372036854775808) = 0 then ((tabardref3_Neg.f k t957).bind fun t963 => (some (t959 == t963))) else (none)) else (none))))) else ((tabardref3_Neg.f k t956).bind fun t964 => (if t955 = t964 then ((tabardref3_Neg.f k t957).bind fun t965 => (some (t959 == t965))) else (if (Int.tmod t955 9223372036854775808) = 0 then (if (Int.tmod t956 9223372036854775808) = 0 then ((tabardref3_Neg.f k t957).bind fun t966 => (some (t959 == t966))) else (none)) else (none)))))))))) else (none)))) else (none)))) else (none))
theorem tabardlaw4_ArithTurns.mono : ∀ a0 a1 k, LeO (tabardlaw4_ArithTurns.f k a0 a1) (tabardlaw4_ArithTurns.f (k + 1) a0 a1) := by
 intro a0 a1 k
 unfold tabardlaw4_ArithTurns.f
 repeat' first
   | (with_reducible exact arith_Add.mono _ _ _)
   | (with_reducible exact arith_Mul.mono _ _ _)
   | (with_reducible exact arith_Sub.mono _ _ _)
   | (with_reducible exact tabardlaw4_shown.mono _)
   | (with_reducible exact tabardref3_Neg.mono _ _)
   | (with_reducible exact LeO.refl _)
   | (with_reducible exact LeO.none _)
   | (with_reducible refine LeO.ite ?_ ?_)
   | (with_reducible refine LeO.bind ?_ (fun _ => ?_))
   | exact arith_Add.mono _ _ _
   | exact arith_Mul.mono _ _ _
   | exact arith_Sub.mono _ _ _
   | exact tabardlaw4_shown.mono _
   | exact tabardref3_Neg.mono _ _
   | exact LeO.none _
   | refine LeO.ite ?_ ?_
   | refine LeO.bind ?_ (fun _ => ?_)
set_option maxHeartbeats 8000000 in
set_option maxRecDepth 100000 in
theorem tabardlaw4_ArithTurns.calls (k : Nat) (a0 : Int) (a1 : Int) (r : Bool) (w : World) (h : tabardlaw4_ArithTurns.f k a0 a1 = some r) :
  Calls Try.prog 17 #[.int .u64 a0, .int .u64 a1] w fun e w' => e = .returned (.bool r) ∧ Below w.heap.size w w' := by
 have HB := zA (Below.refl w.heap.size w)
 have H : ((tabardlaw4_shown.f k).bind fun t950 => (if t950 = true then ((arith_Add.f k a0 a1).bind fun t951 => ((arith_Add.f k a1 a0).bind fun t952 => (if t951 = t952 then ((arith_Mul.f k a0 a1).bind fun t953 => ((arith_Mul.f k a1 a0).bind fun t954 => (if t953 = t954 then ((arith_Sub.f k a0 a1).bind fun t955 => ((arith_Sub.f k a1 a0).bind fun t956 => ((arith_Mul.f k a0 a1).bind fun t957 => ((tabardref3_Neg.f k a0).bind fun t958 => ((arith_Mul.f k t958 a1).bind fun t959 => (if t955 = 0 then (if t956 = 0 then ((tabardref3_Neg.f k t957).bind fun t960 => (some (t959 == t960))) else ((tabardref3_Neg.f k t956).bind fun t961 => (if t955 = t961 then ((tabardref3_Neg.f k t957).bind fun t962 => (some (t959 == t962))) else (if (Int.tmod t955 9223372036854775808) = 0 then (if (Int.tmod t956 9223372036854775808) = 0 then ((tabardref3_Neg.f k t957).bind fun t963 => (some (t959 == t963))) else (none)) else (none))))) else ((tabardref3_Neg.f k t956).bind fun t964 => (if t955 = t964 then ((tabardref3_Neg.f k t957).bind fun t965 => (some (t959 == t965))) else (if (Int.tmod t955 9223372036854775808) = 0 then (if (Int.tmod t956 9223372036854775808) = 0 then ((tabardref3_Neg.f k t957).bind fun t966 => (some (t959 == t966))) else (none)) else (none)))))))))) else (none)))) else (none)))) else (none))) = some r := h
 clear h
 replace H := Option.bind_eq_some_iff.mp H
 obtain ⟨t950, A30, H⟩ := H
 replace H : (if t950 = true then ((arith_Add.f k a0 a1).bind fun t951 => ((arith_Add.f k a1 a0).bind fun t952 => (if t951 = t952 then ((arith_Mul.f k a0 a1).bind fun t953 => ((arith_Mul.f k a1 a0).bind fun t954 => (if t953 = t954 then ((arith_Sub.f k a0 a1).bind fun t955 => ((arith_Sub.f k a1 a0).bind fun t956 => ((arith_Mul.f k a0 a1).bind fun t957 => ((tabardref3_Neg.f k a0).bind fun t958 => ((arith_Mul.f k t958 a1).bind fun t959 => (if t955 = 0 then (if t956 = 0 then ((tabardref3_Neg.f k t957).bind fun t960 => (some (t959 == t960))) else ((tabardref3_Neg.f k t956).bind fun t961 => (if t955 = t961 then ((tabardref3_Neg.f k t957).bind fun t962 => (some (t959 == t962))) else (if (Int.tmod t955 9223372036854775808) = 0 then (if (Int.tmod t956 9223372036854775808) = 0 then ((tabardref3_Neg.f k t957).bind fun t963 => (some (t959 == t963))) else (none)) else (none))))) else ((tabardref3_Neg.f k t956).bind fun t964 => (if t955 = t964 then ((tabardref3_Neg.f k t957).bind fun t965 => (some (t959 == t965))) else (if (Int.tmod t955 9223372036854775808) = 0 then (if (Int.tmod t956 9223372036854775808) = 0 then ((tabardref3_Neg.f k t957).bind fun t966 => (some (t959 == t966))) else (none)) else (none)))))))))) else (none)))) else (none)))) else (none)) = some r := H
 have A3 := zA A30
 clear A30
 by_cases c4 : t950 = true
 ·
  subst c4
  have H1 : ((arith_Add.f k a0 a1).bind fun t951 => ((arith_Add.f k a1 a0).bind fun t952 => (if t951 = t952 then ((arith_Mul.f k a0 a1).bind fun t953 => ((arith_Mul.f k a1 a0).bind fun t954 => (if t953 = t954 then ((arith_Sub.f k a0 a1).bind fun t955 => ((arith_Sub.f k a1 a0).bind fun t956 => ((arith_Mul.f k a0 a1).bind fun t957 => ((tabardref3_Neg.f k a0).bind fun t958 => ((arith_Mul.f k t958 a1).bind fun t959 => (if t955 = 0 then (if t956 = 0 then ((tabardref3_Neg.f k t957).bind fun t960 => (some (t959 == t960))) else ((tabardref3_Neg.f k t956).bind fun t961 => (if t955 = t961 then ((tabardref3_Neg.f k t957).bind fun t962 => (some (t959 == t962))) else (if (Int.tmod t955 9223372036854775808) = 0 then (if (Int.tmod t956 9223372036854775808) = 0 then ((tabardref3_Neg.f k t957).bind fun t963 => (some (t959 == t963))) else (none)) else (none))))) else ((tabardref3_Neg.f k t956).bind fun t964 => (if t955 = t964 then ((tabardref3_Neg.f k t957).bind fun t965 => (some (t959 == t965))) else (if (Int.tmod t955 9223372036854775808) = 0 then (if (Int.tmod t956 9223372036854775808) = 0 then ((tabardref3_Neg.f k t957).bind fun t966 => (some (t959 == t966))) else (none)) else (none)))))))))) else (none)))) else (none)))) = some r := by rw [if_pos rfl] at H; exact H
  clear H
  have H := H1
  clear H1
  replace H := Option.bind_eq_some_iff.mp H
  obtain ⟨t951, A50, H⟩ := H
  replace H : ((arith_Add.f k a1 a0).bind fun t952 => (if t951 = t952 then ((arith_Mul.f k a0 a1).bind fun t953 => ((arith_Mul.f k a1 a0).bind fun t954 => (if t953 = t954 then ((arith_Sub.f k a0 a1).bind fun t955 => ((arith_Sub.f k a1 a0).bind fun t956 => ((arith_Mul.f k a0 a1).bind fun t957 => ((tabardref3_Neg.f k a0).bind fun t958 => ((arith_Mul.f k t958 a1).bind fun t959 => (if t955 = 0 then (if t956 = 0 then ((tabardref3_Neg.f k t957).bind fun t960 => (some (t959 == t960))) else ((tabardref3_Neg.f k t956).bind fun t961 => (if t955 = t961 then ((tabardref3_Neg.f k t957).bind fun t962 => (some (t959 == t962))) else (if (Int.tmod t955 9223372036854775808) = 0 then (if (Int.tmod t956 9223372036854775808) = 0 then ((tabardref3_Neg.f k t957).bind fun t963 => (some (t959 == t963))) else (none)) else (none))))) else ((tabardref3_Neg.f k t956).bind fun t964 => (if t955 = t964 then ((tabardref3_Neg.f k t957).bind fun t965 => (some (t959 == t965))) else (if (Int.tmod t955 9223372036854775808) = 0 then (if (Int.tmod t956 9223372036854775808) = 0 then ((tabardref3_Neg.f k t957).bind fun t966 => (some (t959 == t966))) else (none)) else (none)))))))))) else (none)))) else (none))) = some r := H
  have A5 := zA A50
  clear A50
  replace H := Option.bind_eq_some_iff.mp H
  obtain ⟨t952, A60, H⟩ := H
  replace H : (if t951 = t952 then ((arith_Mul.f k a0 a1).bind fun t953 => ((arith_Mul.f k a1 a0).bind fun t954 => (if t953 = t954 then ((arith_Sub.f k a0 a1).bind fun t955 => ((arith_Sub.f k a1 a0).bind fun t956 => ((arith_Mul.f k a0 a1).bind fun t957 => ((tabardref3_Neg.f k a0).bind fun t958 => ((arith_Mul.f k t958 a1).bind fun t959 => (if t955 = 0 then (if t956 = 0 then ((tabardref3_Neg.f k t957).bind fun t960 => (some (t959 == t960))) else ((tabardref3_Neg.f k t956).bind fun t961 => (if t955 = t961 then ((tabardref3_Neg.f k t957).bind fun t962 => (some (t959 == t962))) else (if (Int.tmod t955 9223372036854775808) = 0 then (if (Int.tmod t956 9223372036854775808) = 0 then ((tabardref3_Neg.f k t957).bind fun t963 => (some (t959 == t963))) else (none)) else (none))))) else ((tabardref3_Neg.f k t956).bind fun t964 => (if t955 = t964 then ((tabardref3_Neg.f k t957).bind fun t965 => (some (t959 == t965))) else (if (Int.tmod t955 9223372036854775808) = 0 then (if (Int.tmod t956 9223372036854775808) = 0 then ((tabardref3_Neg.f k t957).bind fun t966 => (some (t959 == t966))) else (none)) else (none)))))))))) else (none)))) else (none)) = some r := H
  have A6 := zA A60
  clear A60
  by_cases c7 : t951 = t952
  ·
   rw [if_pos c7] at H
   have c7b0 : (t951 == t952) = true := beq_iff_eq.mpr c7
   have c7b1 : (t951 != t952) = false := bne_eq_false_iff_eq.mpr c7
   clear c7
   replace H := Option.bind_eq_some_iff.mp H
   obtain ⟨t953, A80, H⟩ := H
   replace H : ((arith_Mul.f k a1 a0).bind fun t954 => (if t953 = t954 then ((arith_Sub.f k a0 a1).bind fun t955 => ((arith_Sub.f k a1 a0).bind fun t956 => ((arith_Mul.f k a0 a1).bind fun t957 => ((tabardref3_Neg.f k a0).bind fun t958 => ((arith_Mul.f k t958 a1).bind fun t959 => (if t955 = 0 then (if t956 = 0 then ((tabardref3_Neg.f k t957).bind fun t960 => (some (t959 == t960))) else ((tabardref3_Neg.f k t956).bind fun t961 => (if t955 = t961 then ((tabardref3_Neg.f k t957).bind fun t962 => (some (t959 == t962))) else (if (Int.tmod t955 9223372036854775808) = 0 then (if (Int.tmod t956 9223372036854775808) = 0 then ((tabardref3_Neg.f k t957).bind fun t963 => (some (t959 == t963))) else (none)) else (none))))) else ((tabardref3_Neg.f k t956).bind fun t964 => (if t955 = t964 then ((tabardref3_Neg.f k t957).bind fun t965 => (some (t959 == t965))) else (if (Int.tmod t955 9223372036854775808) = 0 then (if (Int.tmod t956 9223372036854775808) = 0 then ((tabardref3_Neg.f k t957).bind fun t966 => (some (t959 == t966))) else (none)) else (none)))))))))) else (none))) = some r := H
   have A8 := zA A80
   clear A80
   replace H := Option.bind_eq_some_iff.mp H
   obtain ⟨t954, A90, H⟩ := H
   replace H : (if t953 = t954 then ((arith_Sub.f k a0 a1).bind fun t955 => ((arith_Sub.f k a1 a0).bind fun t956 => ((arith_Mul.f k a0 a1).bind fun t957 => ((tabardref3_Neg.f k a0).bind fun t958 => ((arith_Mul.f k t958 a1).bind fun t959 => (if t955 = 0 then (if t956 = 0 then ((tabardref3_Neg.f k t957).bind fun t960 => (some (t959 == t960))) else ((tabardref3_Neg.f k t956).bind fun t961 => (if t955 = t961 then ((tabardref3_Neg.f k t957).bind fun t962 => (some (t959 == t962))) else (if (Int.tmod t955 9223372036854775808) = 0 then (if (Int.tmod t956 9223372036854775808) = 0 then ((tabardref3_Neg.f k t957).bind fun t963 => (some (t959 == t963))) else (none)) else (none))))) else ((tabardref3_Neg.f k t956).bind fun t964 => (if t955 = t964 then ((tabardref3_Neg.f k t957).bind fun t965 => (some (t959 == t965))) else (if (Int.tmod t955 9223372036854775808) = 0 then (if (Int.tmod t956 9223372036854775808) = 0 then ((tabardref3_Neg.f k t957).bind fun t966 => (some (t959 == t966))) else (none)) else (none)))))))))) else (none)) = some r := H
   have A9 := zA A90
   clear A90
   by_cases c10 : t953 = t954
   ·
    rw [if_pos c10] at H
    have c10b0 : (t953 == t954) = true := beq_iff_eq.mpr c10
    have c10b1 : (t953 != t954) = false := bne_eq_false_iff_eq.mpr c10
    clear c10
    replace H := Option.bind_eq_some_iff.mp H
    obtain ⟨t955, A110, H⟩ := H
    replace H : ((arith_Sub.f k a1 a0).bind fun t956 => ((arith_Mul.f k a0 a1).bind fun t957 => ((tabardref3_Neg.f k a0).bind fun t958 => ((arith_Mul.f k t958 a1).bind fun t959 => (if t955 = 0 then (if t956 = 0 then ((tabardref3_Neg.f k t957).bind fun t960 => (some (t959 == t960))) else ((tabardref3_Neg.f k t956).bind fun t961 => (if t955 = t961 then ((tabardref3_Neg.f k t957).bind fun t962 => (some (t959 == t962))) else (if (Int.tmod t955 9223372036854775808) = 0 then (if (Int.tmod t956 9223372036854775808) = 0 then ((tabardref3_Neg.f k t957).bind fun t963 => (some (t959 == t963))) else (none)) else (none))))) else ((tabardref3_Neg.f k t956).bind fun t964 => (if t955 = t964 then ((tabardref3_Neg.f k t957).bind fun t965 => (some (t959 == t965))) else (if (Int.tmod t955 9223372036854775808) = 0 then (if (Int.tmod t956 9223372036854775808) = 0 then ((tabardref3_Neg.f k t957).bind fun t966 => (some (t959 == t966))) else (none)) else (none))))))))) = some r := H
    have A11 := zA A110
    clear A110
    replace H := Option.bind_eq_some_iff.mp H
    obtain ⟨t956, A120, H⟩ := H
    replace H : ((arith_Mul.f k a0 a1).bind fun t957 => ((tabardref3_Neg.f k a0).bind fun t958 => ((arith_Mul.f k t958 a1).bind fun t959 => (if t955 = 0 then (if t956 = 0 then ((tabardref3_Neg.f k t957).bind fun t960 => (some (t959 == t960))) else ((tabardref3_Neg.f k t956).bind fun t961 => (if t955 = t961 then ((tabardref3_Neg.f k t957).bind fun t962 => (some (t959 == t962))) else (if (Int.tmod t955 9223372036854775808) = 0 then (if (Int.tmod t956 9223372036854775808) = 0 then ((tabardref3_Neg.f k t957).bind fun t963 => (some (t959 == t963))) else (none)) else (none))))) else ((tabardref3_Neg.f k t956).bind fun t964 => (if t955 = t964 then ((tabardref3_Neg.f k t957).bind fun t965 => (some (t959 == t965))) else (if (Int.tmod t955 9223372036854775808) = 0 then (if (Int.tmod t956 9223372036854775808) = 0 then ((tabardref3_Neg.f k t957).bind fun t966 => (some (t959 == t966))) else (none)) else (none)))))))) = some r := H
    have A12 := zA A120
    clear A120
    replace H := Option.bind_eq_some_iff.mp H
    obtain ⟨t957, A130, H⟩ := H
    replace H : ((tabardref3_Neg.f k a0).bind fun t958 => ((arith_Mul.f k t958 a1).bind fun t959 => (if t955 = 0 then (if t956 = 0 then ((tabardref3_Neg.f k t957).bind fun t960 => (some (t959 == t960))) else ((tabardref3_Neg.f k t956).bind fun t961 => (if t955 = t961 then ((tabardref3_Neg.f k t957).bind fun t962 => (some (t959 == t962))) else (if (Int.tmod t955 9223372036854775808) = 0 then (if (Int.tmod t956 9223372036854775808) = 0 then ((tabardref3_Neg.f k t957).bind fun t963 => (some (t959 == t963))) else (none)) else (none))))) else ((tabardref3_Neg.f k t956).bind fun t964 => (if t955 = t964 then ((tabardref3_Neg.f k t957).bind fun t965 => (some (t959 == t965))) else (if (Int.tmod t955 9223372036854775808) = 0 then (if (Int.tmod t956 9223372036854775808) = 0 then ((tabardref3_Neg.f k t957).bind fun t966 => (some (t959 == t966))) else (none)) else (none))))))) = some r := H
    have A13 := zA A130
    clear A130
    replace H := Option.bind_eq_some_iff.mp H
    obtain ⟨t958, A140, H⟩ := H
    replace H : ((arith_Mul.f k t958 a1).bind fun t959 => (if t955 = 0 then (if t956 = 0 then ((tabardref3_Neg.f k t957).bind fun t960 => (some (t959 == t960))) else ((tabardref3_Neg.f k t956).bind fun t961 => (if t955 = t961 then ((tabardref3_Neg.f k t957).bind fun t962 => (some (t959 == t962))) else (if (Int.tmod t955 9223372036854775808) = 0 then (if (Int.tmod t956 9223372036854775808) = 0 then ((tabardref3_Neg.f k t957).bind fun t963 => (some (t959 == t963))) else (none)) else (none))))) else ((tabardref3_Neg.f k t956).bind fun t964 => (if t955 = t964 then ((tabardref3_Neg.f k t957).bind fun t965 => (some (t959 == t965))) else (if (Int.tmod t955 9223372036854775808) = 0 then (if (Int.tmod t956 9223372036854775808) = 0 then ((tabardref3_Neg.f k t957).bind fun t966 => (some (t959 == t966))) else (none)) else (none)))))) = some r := H
    have A14 := zA A140
    clear A140
    replace H := Option.bind_eq_some_iff.mp H
    obtain ⟨t959, A150, H⟩ := H
    replace H : (if t955 = 0 then (if t956 = 0 then ((tabardref3_Neg.f k t957).bind fun t960 => (some (t959 == t960))) else ((tabardref3_Neg.f k t956).bind fun t961 => (if t955 = t961 then ((tabardref3_Neg.f k t957).bind fun t962 => (some (t959 == t962))) else (if (Int.tmod t955 9223372036854775808) = 0 then (if (Int.tmod t956 9223372036854775808) = 0 then ((tabardref3_Neg.f k t957).bind fun t963 => (some (t959 == t963))) else (none)) else (none))))) else ((tabardref3_Neg.f k t956).bind fun t964 => (if t955 = t964 then ((tabardref3_Neg.f k t957).bind fun t965 => (some (t959 == t965))) else (if (Int.tmod t955 9223372036854775808) = 0 then (if (Int.tmod t956 9223372036854775808) = 0 then ((tabardref3_Neg.f k t957).bind fun t966 => (some (t959 == t966))) else (none)) else (none))))) = some r := H
    have A15 := zA A150
    clear A150
    by_cases c16 : t955 = 0
    ·
     rw [if_pos c16] at H
     have c16b0 : (t955 == 0) = true := beq_iff_eq.mpr c16
     have c16b1 : (t955 != 0) = false := bne_eq_false_iff_eq.mpr c16
     clear c16
     by_cases c17 : t956 = 0
     ·
      rw [if_pos c17] at H
      have c17b0 : (t956 == 0) = true := beq_iff_eq.mpr c17
      have c17b1 : (t956 != 0) = false := bne_eq_false_iff_eq.mpr c17
      clear c17
      replace H := Option.bind_eq_some_iff.mp H
      obtain ⟨t960, A180, H⟩ := H
      replace H : (some (t959 == t960)) = some r := H
      have A18 := zA A180
      clear A180
      obtain rfl := Option.some.inj H
      go_enter Try.func17, Try.ntmps17
      go_wp2_with (first | ((with_reducible refine zoq (f := 63) rfl ?_); refine goesL_ (some 11) rfl rfl Try.func63 (by kernel_rfl) rfl #[] rfl (by (try simp only [List.map_toArray, List.map_cons, List.map_nil]); first | done | rfl | (simp only [List.length_drop, List.length_take]; rfl)) ?_; (with_reducible refine (tabardlaw4_shown.calls k  true _ A3.out).mono ?_); rintro e w19 ⟨rfl, hb⟩; refine ⟨_, rfl, ?_⟩; have n0_ := zA (zeq (by repeat (first | (with_reducible first | exact HB.out | apply zaq | apply zbq | apply zcq) | exact HB.out)) hb); clear HB; have HB := n0_; clear n0_; (try clear hb); (try clear hb2); (try clear hk); (try clear hi)) | (go_at_call 64; (with_reducible refine (arith_Add.calls k a0 a1 t951 _ A5.out).mono ?_); rintro e w20 ⟨rfl, hb⟩; have n0_ := zA (zeq (by repeat (first | (with_reducible first | exact HB.out | apply zaq | apply zbq | apply zcq) | exact HB.out)) hb); clear HB; have HB := n0_; clear n0_; (try clear hb); (try clear hb2); (try clear hk); (try clear hi)) | (go_at_call 64; (with_reducible refine (arith_Add.calls k a1 a0 t952 _ A6.out).mono ?_); rintro e w21 ⟨rfl, hb⟩; have n0_ := zA (zeq (by repeat (first | (with_reducible first | exact HB.out | apply zaq | apply zbq | apply zcq) | exact HB.out)) hb); clear HB; have HB := n0_; clear n0_; (try clear hb); (try clear hb2); (try clear hk); (try clear hi)) | (go_at_call 68; (with_reducible refine (arith_Mul.calls k a0 a1 t953 _ A8.out).mono ?_); rintro e w22 ⟨rfl, hb⟩; have n0_ := zA (zeq (by repeat (first | (with_reducible first | exact HB.out | apply zaq | apply zbq | apply zcq) | exact HB.out)) hb); clear HB; have HB := n0_; clear n0_; (try clear hb); (try clear hb2); (try clear hk); (try clear hi)) | (go_at_call 68; (with_reducible refine (arith_Mul.calls k a1 a0 t954 _ A9.out).mono ?_); rintro e w23 ⟨rfl, hb⟩; have n0_ := zA (zeq (by repeat (first | (with_reducible first | exact HB.out | apply zaq | apply zbq | apply zcq) | exact HB.out)) hb); clear HB; have HB := n0_; clear n0_; (try clear hb); (try clear hb2); (try clear hk); (try clear hi)) | ((with_reducible refine zoq (f := 66) rfl ?_); refine goesL_ (some 34) rfl rfl Try.func66 (by kernel_rfl) rfl #[.int .u64 a0, .int .u64 a1] rfl (by (try simp only [List.map_toArray, List.map_cons, List.map_nil]); first | done | rfl | (simp only [List.length_drop, List.length_take]; rfl)) ?_; (with_reducible refine (arith_Sub.calls k a0 a1 t955 _ A11.out).mono ?_); rintro e w24 ⟨rfl, hb⟩; refine ⟨_, rfl, ?_⟩; have n0_ := zA (zeq (by repeat (first | (with_reducible first | exact HB.out | apply zaq | apply zbq | apply zcq) | exact HB.out)) hb); clear HB; have HB := n0_; clear n0_; (try clear hb); (try clear hb2); (try clear hk); (try clear hi)) | ((with_reducible refine zoq (f := 66) rfl ?_); refine goesL_ (some 37) rfl rfl Try.func66 (by kernel_rfl) rfl #[.int .u64 a1, .int .u64 a0] rfl (by (try simp only [List.map_toArray, List.map_cons, List.map_nil]); first | done | rfl | (simp only [List.length_drop, List.length_take]; rfl)) ?_; (with_reducible refine (arith_Sub.calls k a1 a0 t956 _ A12.out).mono ?_); rintro e w25 ⟨rfl, hb⟩; refine ⟨_, rfl, ?_⟩; have n0_ := zA (zeq (by repeat (first | (with_reducible first | exact HB.out | apply zaq | apply zbq | apply zcq) | exact HB.out)) hb); clear HB; have HB := n0_; clear n0_; (try clear hb); (try clear hb2); (try clear hk); (try clear hi)) | ((with_reducible refine zoq (f := 68) rfl ?_); refine goesL_ (some 40) rfl rfl Try.func68 (by kernel_rfl) rfl #[.int .u64 a0, .int .u64 a1] rfl (by (try simp only [List.map_toArray, List.map_cons, List.map_nil]); first | done | rfl | (simp only [List.length_drop, List.length_take]; rfl)) ?_; (with_reducible refine (arith_Mul.calls k a0 a1 t957 _ A13.out).mono ?_); rintro e w26 ⟨rfl, hb⟩; refine ⟨_, rfl, ?_⟩; have n0_ := zA (zeq (by repeat (first | (with_reducible first | exact HB.out | apply zaq | apply zbq | apply zcq) | exact HB.out)) hb); clear HB; have HB := n0_; clear n0_; (try clear hb); (try clear hb2); (try clear hk); (try clear hi)) | ((with_reducible refine zoq (f := 33) rfl ?_); refine goesL_ (some 42) rfl rfl Try.func33 (by kernel_rfl) rfl #[.int .u64 a0] rfl (by (try simp only [List.map_toArray, List.map_cons, List.map_nil]); first | done | rfl | (simp only [List.length_drop, List.length_take]; rfl)) ?_; (with_reducible refine (tabardref3_Neg.calls k a0 t958 _ A14.out).mono ?_); rintro e w' ⟨rfl, ⟨nd, rfl⟩⟩; refine ⟨_, rfl, ?_⟩) | ((with_reducible refine zoq (f := 68) rfl ?_); refine goesL_ (some 44) rfl rfl Try.func68 (by kernel_rfl) rfl #[.int .u64 t958, .int .u64 a1] rfl (by (try simp only [List.map_toArray, List.map_cons, List.map_nil]); first | done | rfl | (simp only [List.length_drop, List.length_take]; rfl)) ?_; (with_reducible refine (arith_Mul.calls k t958 a1 t959 _ A15.out).mono ?_); rintro e w27 ⟨rfl, hb⟩; refine ⟨_, rfl, ?_⟩; have n0_ := zA (zeq (by repeat (first | (with_reducible first | exact HB.out | apply zaq | apply zbq | apply zcq) | exact HB.out)) hb); clear HB; have HB := n0_; clear n0_; (try clear hb); (try clear hb2); (try clear hk); (try clear hi)) | (go_at_call 33; (with_reducible refine (tabardref3_Neg.calls k t957 t960 _ A18.out).mono ?_); rintro e w' ⟨rfl, ⟨nd, rfl⟩⟩))
      go_ret
      exact ⟨by first | rfl | (simp [errW_none, errW_some] <;> rfl) | (simp [*, errW_none, errW_some] <;> rfl), by repeat (first | (with_reducible first | exact HB.out | apply zaq | apply zbq | apply zcq) | exact HB.out)⟩
     ·
      rw [if_neg c17] at H
      have c17b0 : (t956 == 0) = false := beq_eq_false_iff_ne.mpr c17
      have c17b1 : (t956 != 0) = true := bne_iff_ne.mpr c17
      replace H := Option.bind_eq_some_iff.mp H
      obtain ⟨t961, A280, H⟩ := H
      replace H : (if t955 = t961 then ((tabardref3_Neg.f k t957).bind fun t962 => (some (t959 == t962))) else (if (Int.tmod t955 9223372036854775808) = 0 then (if (Int.tmod t956 9223372036854775808) = 0 then ((tabardref3_Neg.f k t957).bind fun t963 => (some (t959 == t963))) else (none)) else (none))) = some r := H
      have A28 := zA A280
      clear A280
      by_cases c29 : t955 = t961
      ·
       rw [if_pos c29] at H
       have c29b0 : (t955 == t961) = true := beq_iff_eq.mpr c29
       have c29b1 : (t955 != t961) = false := bne_eq_false_iff_eq.mpr c29
       clear c29
       replace H := Option.bind_eq_some_iff.mp H
       obtain ⟨t962, A300, H⟩ := H
       replace H : (some (t959 == t962)) = some r := H
       have A30 := zA A300
       clear A300
       obtain rfl := Option.some.inj H
       go_enter Try.func17, Try.ntmps17
       go_wp2_with (first | ((with_reducible refine zoq (f := 63) rfl ?_); refine goesL_ (some 11) rfl rfl Try.func63 (by kernel_rfl) rfl #[] rfl (by (try simp only [List.map_toArray, List.map_cons, List.map_nil]); first | done | rfl | (simp only [List.length_drop, List.length_take]; rfl)) ?_; (with_reducible refine (tabardlaw4_shown.calls k  true _ A3.out).mono ?_); rintro e w31 ⟨rfl, hb⟩; refine ⟨_, rfl, ?_⟩; have n0_ := zA (zeq (by repeat (first | (with_reducible first | exact HB.out | apply zaq | apply zbq | apply zcq) | exact HB.out)) hb); clear HB; have HB := n0_; clear n0_; (try clear hb); (try clear hb2); (try clear hk); (try clear hi)) | (go_at_call 64; (with_reducible refine (arith_Add.calls k a0 a1 t951 _ A5.out).mono ?_); rintro e w32 ⟨rfl, hb⟩; have n0_ := zA (zeq (by repeat (first | (with_reducible first | exact HB.out | apply zaq | apply zbq | apply zcq) | exact HB.out)) hb); clear HB; have HB := n0_; clear n0_; (try clear hb); (try clear hb2); (try clear hk); (try clear hi)) | (go_at_call 64; (with_reducible refine (arith_Add.calls k a1 a0 t952 _ A6.out).mono ?_); rintro e w33 ⟨rfl, hb⟩; have n0_ := zA (zeq (by repeat (first | (with_reducible first | exact HB.out | apply zaq | apply zbq | apply zcq) | exact HB.out)) hb); clear HB; have HB := n0_; clear n0_; (try clear hb); (try clear hb2); (try clear hk); (try clear hi)) | (go_at_call 68; (with_reducible refine (arith_Mul.calls k a0 a1 t953 _ A8.out).mono ?_); rintro e w34 ⟨rfl, hb⟩; have n0_ := zA (zeq (by repeat (first | (with_reducible first | exact HB.out | apply zaq | apply zbq | apply zcq) | exact HB.out)) hb); clear HB; have HB := n0_; clear n0_; (try clear hb); (try clear hb2); (try clear hk); (try clear hi)) | (go_at_call 68; (with_reducible refine (arith_Mul.calls k a1 a0 t954 _ A9.out).mono ?_); rintro e w35 ⟨rfl, hb⟩; have n0_ := zA (zeq (by repeat (first | (with_reducible first | exact HB.out | apply zaq | apply zbq | apply zcq) | exact HB.out)) hb); clear HB; have HB := n0_; clear n0_; (try clear hb); (try clear hb2); (try clear hk); (try clear hi)) | ((with_reducible refine zoq (f := 66) rfl ?_); refine goesL_ (some 34) rfl rfl Try.func66 (by kernel_rfl) rfl #[.int .u64 a0, .int .u64 a1] rfl (by (try simp only [List.map_toArray, List.map_cons, List.map_nil]); first | done | rfl | (simp only [List.length_drop, List.length_take]; rfl)) ?_; (with_reducible refine (arith_Sub.calls k a0 a1 t955 _ A11.out).mono ?_); rintro e w36 ⟨rfl, hb⟩; refine ⟨_, rfl, ?_⟩; have n0_ := zA (zeq (by repeat (first | (with_reducible first | exact HB.out | apply zaq | apply zbq | apply zcq) | exact HB.out)) hb); clear HB; have HB := n0_; clear n0_; (try clear hb); (try clear hb2); (try clear hk); (try clear hi)) | ((with_reducible refine zoq (f := 66) rfl ?_); refine goesL_ (some 37) rfl rfl Try.func66 (by kernel_rfl) rfl #[.int .u64 a1, .int .u64 a0] rfl (by (try simp only [List.map_toArray, List.map_cons, List.map_nil]); first | done | rfl | (simp only [List.length_drop, List.length_take]; rfl)) ?_; (with_reducible refine (arith_Sub.calls k a1 a0 t956 _ A12.out).mono ?_); rintro e w37 ⟨rfl, hb⟩; refine ⟨_, rfl, ?_⟩; have n0_ := zA (zeq (by repeat (first | (with_reducible first | exact HB.out | apply zaq | apply zbq | apply zcq) | exact HB.out)) hb); clear HB; have HB := n0_; clear n0_; (try clear hb); (try clear hb2); (try clear hk); (try clear hi)) | ((with_reducible refine zoq (f := 68) rfl ?_); refine goesL_ (some 40) rfl rfl Try.func68 (by kernel_rfl) rfl #[.int .u64 a0, .int .u64 a1] rfl (by (try simp only [List.map_toArray, List.map_cons, List.map_nil]); first | done | rfl | (simp only [List.length_drop, List.length_take]; rfl)) ?_; (with_reducible refine (arith_Mul.calls k a0 a1 t957 _ A13.out).mono ?_); rintro e w38 ⟨rfl, hb⟩; refine ⟨_, rfl, ?_⟩; have n0_ := zA (zeq (by repeat (first | (with_reducible first | exact HB.out | apply zaq | apply zbq | apply zcq) | exact HB.out)) hb); clear HB; have HB := n0_; clear n0_; (try clear hb); (try clear hb2); (try clear hk); (try clear hi)) | ((with_reducible refine zoq (f := 33) rfl ?_); refine goesL_ (some 42) rfl rfl Try.func33 (by kernel_rfl) rfl #[.int .u64 a0] rfl (by (try simp only [List.map_toArray, List.map_cons, List.map_nil]); first | done | rfl | (simp only [List.length_drop, List.length_take]; rfl)) ?_; (with_reducible refine (tabardref3_Neg.calls k a0 t958 _ A14.out).mono ?_); rintro e w' ⟨rfl, ⟨nd, rfl⟩⟩; refine ⟨_, rfl, ?_⟩) | ((with_reducible refine zoq (f := 68) rfl ?_); refine goesL_ (some 44) rfl rfl Try.func68 (by kernel_rfl) rfl #[.int .u64 t958, .int .u64 a1] rfl (by (try simp only [List.map_toArray, List.map_cons, List.map_nil]); first | done | rfl | (simp only [List.length_drop, List.length_take]; rfl)) ?_; (with_reducible refine (arith_Mul.calls k t958 a1 t959 _ A15.out).mono ?_); rintro e w39 ⟨rfl, hb⟩; refine ⟨_, rfl, ?_⟩; have n0_ := zA (zeq (by repeat (first | (with_reducible first | exact HB.out | apply zaq | apply zbq | apply zcq) | exact HB.out)) hb); clear HB; have HB := n0_; clear n0_; (try clear hb); (try clear hb2); (try clear hk); (try clear hi)) | (go_at_call 33; (with_reducible refine (tabardref3_Neg.calls k t956 t961 _ A28.out).mono ?_); rintro e w' ⟨rfl, ⟨nd, rfl⟩⟩) | (go_at_call 33; (with_reducible refine (tabardref3_Neg.calls k t957 t962 _ A30.out).mono ?_); rintro e w' ⟨rfl, ⟨nd, rfl⟩⟩))
       go_ret
       exact ⟨by first | rfl | (simp [errW_none, errW_some] <;> rfl) | (simp [*, errW_none, errW_some] <;> rfl), by repeat (first | (with_reducible first | exact HB.out | apply zaq | apply zbq | apply zcq) | exact HB.out)⟩
      ·
       rw [if_neg c29] at H
       have c29b0 : (t955 == t961) = false := beq_eq_false_iff_ne.mpr c29
       have c29b1 : (t955 != t961) = true := bne_iff_ne.mpr c29
       by_cases c40 : (Int.tmod t955 9223372036854775808) = 0
       ·
        rw [if_pos c40] at H
        have c40b0 : ((Int.tmod t955 9223372036854775808) == 0) = true := beq_iff_eq.mpr c40
        have c40b1 : ((Int.tmod t955 9223372036854775808) != 0) = false := bne_eq_false_iff_eq.mpr c40
        clear c40
        by_cases c41 : (Int.tmod t956 9223372036854775808) = 0
        ·
         rw [if_pos c41] at H
         have c41b0 : ((Int.tmod t956 9223372036854775808) == 0) = true := beq_iff_eq.mpr c41
         have c41b1 : ((Int.tmod t956 9223372036854775808) != 0) = false := bne_eq_false_iff_eq.mpr c41
         clear c41
         replace H := Option.bind_eq_some_iff.mp H
         obtain ⟨t963, A420, H⟩ := H
         replace H : (some (t959 == t963)) = some r := H
         have A42 := zA A420
         clear A420
         obtain rfl := Option.some.inj H
         go_enter Try.func17, Try.ntmps17
         go_wp2_with (first | ((with_reducible refine zoq (f := 63) rfl ?_); refine goesL_ (some 11) rfl rfl Try.func63 (by kernel_rfl) rfl #[] rfl (by (try simp only [List.map_toArray, List.map_cons, List.map_nil]); first | done | rfl | (simp only [List.length_drop, List.length_take]; rfl)) ?_; (with_reducible refine (tabardlaw4_shown.calls k  true _ A3.out).mono ?_); rintro e w43 ⟨rfl, hb⟩; refine ⟨_, rfl, ?_⟩; have n0_ := zA (zeq (by repeat (first | (with_reducible first | exact HB.out | apply zaq | apply zbq | apply zcq) | exact HB.out)) hb); clear HB; have HB := n0_; clear n0_; (try clear hb); (try clear hb2); (try clear hk); (try clear hi)) | (go_at_call 64; (with_reducible refine (arith_Add.calls k a0 a1 t951 _ A5.out).mono ?_); rintro e w44 ⟨rfl, hb⟩; have n0_ := zA (zeq (by repeat (first | (with_reducible first | exact HB.out | apply zaq | apply zbq | apply zcq) | exact HB.out)) hb); clear HB; have HB := n0_; clear n0_; (try clear hb); (try clear hb2); (try clear hk); (try clear hi)) | (go_at_call 64; (with_reducible refine (arith_Add.calls k a1 a0 t952 _ A6.out).mono ?_); rintro e w45 ⟨rfl, hb⟩; have n0_ := zA (zeq (by repeat (first | (with_reducible first | exact HB.out | apply zaq | apply zbq | apply zcq) | exact HB.out)) hb); clear HB; have HB := n0_; clear n0_; (try clear hb); (try clear hb2); (try clear hk); (try clear hi)) | (go_at_call 68; (with_reducible refine (arith_Mul.calls k a0 a1 t953 _ A8.out).mono ?_); rintro e w46 ⟨rfl, hb⟩; have n0_ := zA (zeq (by repeat (first | (with_reducible first | exact HB.out | apply zaq | apply zbq | apply zcq) | exact HB.out)) hb); clear HB; have HB := n0_; clear n0_; (try clear hb); (try clear hb2); (try clear hk); (try clear hi)) | (go_at_call 68; (with_reducible refine (arith_Mul.calls k a1 a0 t954 _ A9.out).mono ?_); rintro e w47 ⟨rfl, hb⟩; have n0_ := zA (zeq (by repeat (first | (with_reducible first | exact HB.out | apply zaq | apply zbq | apply zcq) | exact HB.out)) hb); clear HB; have HB := n0_; clear n0_; (try clear hb); (try clear hb2); (try clear hk); (try clear hi)) | ((with_reducible refine zoq (f := 66) rfl ?_); refine goesL_ (some 34) rfl rfl Try.func66 (by kernel_rfl) rfl #[.int .u64 a0, .int .u64 a1] rfl (by (try simp only [List.map_toArray, List.map_cons, List.map_nil]); first | done | rfl | (simp only [List.length_drop, List.length_take]; rfl)) ?_; (with_reducible refine (arith_Sub.calls k a0 a1 t955 _ A11.out).mono ?_); rintro e w48 ⟨rfl, hb⟩; refine ⟨_, rfl, ?_⟩; have n0_ := zA (zeq (by repeat (first | (with_reducible first | exact HB.out | apply zaq | apply zbq | apply zcq) | exact HB.out)) hb); clear HB; have HB := n0_; clear n0_; (try clear hb); (try clear hb2); (try clear hk); (try clear hi)) | ((with_reducible refine zoq (f := 66) rfl ?_); refine goesL_ (some 37) rfl rfl Try.func66 (by kernel_rfl) rfl #[.int .u64 a1, .int .u64 a0] rfl (by (try simp only [List.map_toArray, List.map_cons, List.map_nil]); first | done | rfl | (simp only [List.length_drop, List.length_take]; rfl)) ?_; (with_reducible refine (arith_Sub.calls k a1 a0 t956 _ A12.out).mono ?_); rintro e w49 ⟨rfl, hb⟩; refine ⟨_, rfl, ?_⟩; have n0_ := zA (zeq (by repeat (first | (with_reducible first | exact HB.out | apply zaq | apply zbq | apply zcq) | exact HB.out)) hb); clear HB; have HB := n0_; clear n0_; (try clear hb); (try clear hb2); (try clear hk); (try clear hi)) | ((with_reducible refine zoq (f := 68) rfl ?_); refine goesL_ (some 40) rfl rfl Try.func68 (by kernel_rfl) rfl #[.int .u64 a0, .int .u64 a1] rfl (by (try simp only [List.map_toArray, List.map_cons, List.map_nil]); first | done | rfl | (simp only [List.length_drop, List.length_take]; rfl)) ?_; (with_reducible refine (arith_Mul.calls k a0 a1 t957 _ A13.out).mono ?_); rintro e w50 ⟨rfl, hb⟩; refine ⟨_, rfl, ?_⟩; have n0_ := zA (zeq (by repeat (first | (with_reducible first | exact HB.out | apply zaq | apply zbq | apply zcq) | exact HB.out)) hb); clear HB; have HB := n0_; clear n0_; (try clear hb); (try clear hb2); (try clear hk); (try clear hi)) | ((with_reducible refine zoq (f := 33) rfl ?_); refine goesL_ (some 42) rfl rfl Try.func33 (by kernel_rfl) rfl #[.int .u64 a0] rfl (by (try simp only [List.map_toArray, List.map_cons, List.map_nil]); first | done | rfl | (simp only [List.length_drop, List.length_take]; rfl)) ?_; (with_reducible refine (tabardref3_Neg.calls k a0 t958 _ A14.out).mono ?_); rintro e w' ⟨rfl, ⟨nd, rfl⟩⟩; refine ⟨_, rfl, ?_⟩) | ((with_reducible refine zoq (f := 68) rfl ?_); refine goesL_ (some 44) rfl rfl Try.func68 (by kernel_rfl) rfl #[.int .u64 t958, .int .u64 a1] rfl (by (try simp only [List.map_toArray, List.map_cons, List.map_nil]); first | done | rfl | (simp only [List.length_drop, List.length_take]; rfl)) ?_; (with_reducible refine (arith_Mul.calls k t958 a1 t959 _ A15.out).mono ?_); rintro e w51 ⟨rfl, hb⟩; refine ⟨_, rfl, ?_⟩; have n0_ := zA (zeq (by repeat (first | (with_reducible first | exact HB.out | apply zaq | apply zbq | apply zcq) | exact HB.out)) hb); clear HB; have HB := n0_; clear n0_; (try clear hb); (try clear hb2); (try clear hk); (try clear hi)) | (go_at_call 33; (with_reducible refine (tabardref3_Neg.calls k t956 t961 _ A28.out).mono ?_); rintro e w' ⟨rfl, ⟨nd, rfl⟩⟩) | (go_at_call 33; (with_reducible refine (tabardref3_Neg.calls k t957 t963 _ A42.out).mono ?_); rintro e w' ⟨rfl, ⟨nd, rfl⟩⟩))
         go_ret
         exact ⟨by first | rfl | (simp [errW_none, errW_some] <;> rfl) | (simp [*, errW_none, errW_some] <;> rfl), by repeat (first | (with_reducible first | exact HB.out | apply zaq | apply zbq | apply zcq) | exact HB.out)⟩
        ·
         rw [if_neg c41] at H
         exact absurd H (by simp)
       ·
        rw [if_neg c40] at H
        exact absurd H (by simp)
    ·
     rw [if_neg c16] at H
     have c16b0 : (t955 == 0) = false := beq_eq_false_iff_ne.mpr c16
     have c16b1 : (t955 != 0) = true := bne_iff_ne.mpr c16
     replace H := Option.bind_eq_some_iff.mp H
     obtain ⟨t964, A520, H⟩ := H
     replace H : (if t955 = t964 then ((tabardref3_Neg.f k t957).bind fun t965 => (some (t959 == t965))) else (if (Int.tmod t955 9223372036854775808) = 0 then (if (Int.tmod t956 9223372036854775808) = 0 then ((tabardref3_Neg.f k t957).bind fun t966 => (some (t959 == t966))) else (none)) else (none))) = some r := H
     have A52 := zA A520
     clear A520
     by_cases c53 : t955 = t964
     ·
      rw [if_pos c53] at H
      have c53b0 : (t955 == t964) = true := beq_iff_eq.mpr c53
      have c53b1 : (t955 != t964) = false := bne_eq_false_iff_eq.mpr c53
      clear c53
      replace H := Option.bind_eq_some_iff.mp H
      obtain ⟨t965, A540, H⟩ := H
      replace H : (some (t959 == t965)) = some r := H
      have A54 := zA A540
      clear A540
      obtain rfl := Option.some.inj H
      go_enter Try.func17, Try.ntmps17
      go_wp2_with (first | ((with_reducible refine zoq (f := 63) rfl ?_); refine goesL_ (some 11) rfl rfl Try.func63 (by kernel_rfl) rfl #[] rfl (by (try simp only [List.map_toArray, List.map_cons, List.map_nil]); first | done | rfl | (simp only [List.length_drop, List.length_take]; rfl)) ?_; (with_reducible refine (tabardlaw4_shown.calls k  true _ A3.out).mono ?_); rintro e w55 ⟨rfl, hb⟩; refine ⟨_, rfl, ?_⟩; have n0_ := zA (zeq (by repeat (first | (with_reducible first | exact HB.out | apply zaq | apply zbq | apply zcq) | exact HB.out)) hb); clear HB; have HB := n0_; clear n0_; (try clear hb); (try clear hb2); (try clear hk); (try clear hi)) | (go_at_call 64; (with_reducible refine (arith_Add.calls k a0 a1 t951 _ A5.out).mono ?_); rintro e w56 ⟨rfl, hb⟩; have n0_ := zA (zeq (by repeat (first | (with_reducible first | exact HB.out | apply zaq | apply zbq | apply zcq) | exact HB.out)) hb); clear HB; have HB := n0_; clear n0_; (try clear hb); (try clear hb2); (try clear hk); (try clear hi)) | (go_at_call 64; (with_reducible refine (arith_Add.calls k a1 a0 t952 _ A6.out).mono ?_); rintro e w57 ⟨rfl, hb⟩; have n0_ := zA (zeq (by repeat (first | (with_reducible first | exact HB.out | apply zaq | apply zbq | apply zcq) | exact HB.out)) hb); clear HB; have HB := n0_; clear n0_; (try clear hb); (try clear hb2); (try clear hk); (try clear hi)) | (go_at_call 68; (with_reducible refine (arith_Mul.calls k a0 a1 t953 _ A8.out).mono ?_); rintro e w58 ⟨rfl, hb⟩; have n0_ := zA (zeq (by repeat (first | (with_reducible first | exact HB.out | apply zaq | apply zbq | apply zcq) | exact HB.out)) hb); clear HB; have HB := n0_; clear n0_; (try clear hb); (try clear hb2); (try clear hk); (try clear hi)) | (go_at_call 68; (with_reducible refine (arith_Mul.calls k a1 a0 t954 _ A9.out).mono ?_); rintro e w59 ⟨rfl, hb⟩; have n0_ := zA (zeq (by repeat (first | (with_reducible first | exact HB.out | apply zaq | apply zbq | apply zcq) | exact HB.out)) hb); clear HB; have HB := n0_; clear n0_; (try clear hb); (try clear hb2); (try clear hk); (try clear hi)) | ((with_reducible refine zoq (f := 66) rfl ?_); refine goesL_ (some 34) rfl rfl Try.func66 (by kernel_rfl) rfl #[.int .u64 a0, .int .u64 a1] rfl (by (try simp only [List.map_toArray, List.map_cons, List.map_nil]); first | done | rfl | (simp only [List.length_drop, List.length_take]; rfl)) ?_; (with_reducible refine (arith_Sub.calls k a0 a1 t955 _ A11.out).mono ?_); rintro e w60 ⟨rfl, hb⟩; refine ⟨_, rfl, ?_⟩; have n0_ := zA (zeq (by repeat (first | (with_reducible first | exact HB.out | apply zaq | apply zbq | apply zcq) | exact HB.out)) hb); clear HB; have HB := n0_; clear n0_; (try clear hb); (try clear hb2); (try clear hk); (try clear hi)) | ((with_reducible refine zoq (f := 66) rfl ?_); refine goesL_ (some 37) rfl rfl Try.func66 (by kernel_rfl) rfl #[.int .u64 a1, .int .u64 a0] rfl (by (try simp only [List.map_toArray, List.map_cons, List.map_nil]); first | done | rfl | (simp only [List.length_drop, List.length_take]; rfl)) ?_; (with_reducible refine (arith_Sub.calls k a1 a0 t956 _ A12.out).mono ?_); rintro e w61 ⟨rfl, hb⟩; refine ⟨_, rfl, ?_⟩; have n0_ := zA (zeq (by repeat (first | (with_reducible first | exact HB.out | apply zaq | apply zbq | apply zcq) | exact HB.out)) hb); clear HB; have HB := n0_; clear n0_; (try clear hb); (try clear hb2); (try clear hk); (try clear hi)) | ((with_reducible refine zoq (f := 68) rfl ?_); refine goesL_ (some 40) rfl rfl Try.func68 (by kernel_rfl) rfl #[.int .u64 a0, .int .u64 a1] rfl (by (try simp only [List.map_toArray, List.map_cons, List.map_nil]); first | done | rfl | (simp only [List.length_drop, List.length_take]; rfl)) ?_; (with_reducible refine (arith_Mul.calls k a0 a1 t957 _ A13.out).mono ?_); rintro e w62 ⟨rfl, hb⟩; refine ⟨_, rfl, ?_⟩; have n0_ := zA (zeq (by repeat (first | (with_reducible first | exact HB.out | apply zaq | apply zbq | apply zcq) | exact HB.out)) hb); clear HB; have HB := n0_; clear n0_; (try clear hb); (try clear hb2); (try clear hk); (try clear hi)) | ((with_reducible refine zoq (f := 33) rfl ?_); refine goesL_ (some 42) rfl rfl Try.func33 (by kernel_rfl) rfl #[.int .u64 a0] rfl (by (try simp only [List.map_toArray, List.map_cons, List.map_nil]); first | done | rfl | (simp only [List.length_drop, List.length_take]; rfl)) ?_; (with_reducible refine (tabardref3_Neg.calls k a0 t958 _ A14.out).mono ?_); rintro e w' ⟨rfl, ⟨nd, rfl⟩⟩; refine ⟨_, rfl, ?_⟩) | ((with_reducible refine zoq (f := 68) rfl ?_); refine goesL_ (some 44) rfl rfl Try.func68 (by kernel_rfl) rfl #[.int .u64 t958, .int .u64 a1] rfl (by (try simp only [List.map_toArray, List.map_cons, List.map_nil]); first | done | rfl | (simp only [List.length_drop, List.length_take]; rfl)) ?_; (with_reducible refine (arith_Mul.calls k t958 a1 t959 _ A15.out).mono ?_); rintro e w63 ⟨rfl, hb⟩; refine ⟨_, rfl, ?_⟩; have n0_ := zA (zeq (by repeat (first | (with_reducible first | exact HB.out | apply zaq | apply zbq | apply zcq) | exact HB.out)) hb); clear HB; have HB := n0_; clear n0_; (try clear hb); (try clear hb2); (try clear hk); (try clear hi)) | (go_at_call 33; (with_reducible refine (tabardref3_Neg.calls k t956 t964 _ A52.out).mono ?_); rintro e w' ⟨rfl, ⟨nd, rfl⟩⟩) | (go_at_call 33; (with_reducible refine (tabardref3_Neg.calls k t957 t965 _ A54.out).mono ?_); rintro e w' ⟨rfl, ⟨nd, rfl⟩⟩))
      go_ret
      exact ⟨by first | rfl | (simp [errW_none, errW_some] <;> rfl) | (simp [*, errW_none, errW_some] <;> rfl), by repeat (first | (with_reducible first | exact HB.out | apply zaq | apply zbq | apply zcq) | exact HB.out)⟩
     ·
      rw [if_neg c53] at H
      have c53b0 : (t955 == t964) = false := beq_eq_false_iff_ne.mpr c53
      have c53b1 : (t955 != t964) = true := bne_iff_ne.mpr c53
      by_cases c64 : (Int.tmod t955 9223372036854775808) = 0
      ·
       rw [if_pos c64] at H
       have c64b0 : ((Int.tmod t955 9223372036854775808) == 0) = true := beq_iff_eq.mpr c64
       have c64b1 : ((Int.tmod t955 9223372036854775808) != 0) = false := bne_eq_false_iff_eq.mpr c64
       clear c64
       by_cases c65 : (Int.tmod t956 9223372036854775808) = 0
       ·
        rw [if_pos c65] at H
        have c65b0 : ((Int.tmod t956 9223372036854775808) == 0) = true := beq_iff_eq.mpr c65
        have c65b1 : ((Int.tmod t956 9223372036854775808) != 0) = false := bne_eq_false_iff_eq.mpr c65
        clear c65
        replace H := Option.bind_eq_some_iff.mp H
        obtain ⟨t966, A660, H⟩ := H
        replace H : (some (t959 == t966)) = some r := H
        have A66 := zA A660
        clear A660
        obtain rfl := Option.some.inj H
        go_enter Try.func17, Try.ntmps17
        go_wp2_with (first | ((with_reducible refine zoq (f := 63) rfl ?_); refine goesL_ (some 11) rfl rfl Try.func63 (by kernel_rfl) rfl #[] rfl (by (try simp only [List.map_toArray, List.map_cons, List.map_nil]); first | done | rfl | (simp only [List.length_drop, List.length_take]; rfl)) ?_; (with_reducible refine (tabardlaw4_shown.calls k  true _ A3.out).mono ?_); rintro e w67 ⟨rfl, hb⟩; refine ⟨_, rfl, ?_⟩; have n0_ := zA (zeq (by repeat (first | (with_reducible first | exact HB.out | apply zaq | apply zbq | apply zcq) | exact HB.out)) hb); clear HB; have HB := n0_; clear n0_; (try clear hb); (try clear hb2); (try clear hk); (try clear hi)) | (go_at_call 64; (with_reducible refine (arith_Add.calls k a0 a1 t951 _ A5.out).mono ?_); rintro e w68 ⟨rfl, hb⟩; have n0_ := zA (zeq (by repeat (first | (with_reducible first | exact HB.out | apply zaq | apply zbq | apply zcq) | exact HB.out)) hb); clear HB; have HB := n0_; clear n0_; (try clear hb); (try clear hb2); (try clear hk); (try clear hi)) | (go_at_call 64; (with_reducible refine (arith_Add.calls k a1 a0 t952 _ A6.out).mono ?_); rintro e w69 ⟨rfl, hb⟩; have n0_ := zA (zeq (by repeat (first | (with_reducible first | exact HB.out | apply zaq | apply zbq | apply zcq) | exact HB.out)) hb); clear HB; have HB := n0_; clear n0_; (try clear hb); (try clear hb2); (try clear hk); (try clear hi)) | (go_at_call 68; (with_reducible refine (arith_Mul.calls k a0 a1 t953 _ A8.out).mono ?_); rintro e w70 ⟨rfl, hb⟩; have n0_ := zA (zeq (by repeat (first | (with_reducible first | exact HB.out | apply zaq | apply zbq | apply zcq) | exact HB.out)) hb); clear HB; have HB := n0_; clear n0_; (try clear hb); (try clear hb2); (try clear hk); (try clear hi)) | (go_at_call 68; (with_reducible refine (arith_Mul.calls k a1 a0 t954 _ A9.out).mono ?_); rintro e w71 ⟨rfl, hb⟩; have n0_ := zA (zeq (by repeat (first | (with_reducible first | exact HB.out | apply zaq | apply zbq | apply zcq) | exact HB.out)) hb); clear HB; have HB := n0_; clear n0_; (try clear hb); (try clear hb2); (try clear hk); (try clear hi)) | ((with_reducible refine zoq (f := 66) rfl ?_); refine goesL_ (some 34) rfl rfl Try.func66 (by kernel_rfl) rfl #[.int .u64 a0, .int .u64 a1] rfl (by (try simp only [List.map_toArray, List.map_cons, List.map_nil]); first | done | rfl | (simp only [List.length_drop, List.length_take]; rfl)) ?_; (with_reducible refine (arith_Sub.calls k a0 a1 t955 _ A11.out).mono ?_); rintro e w72 ⟨rfl, hb⟩; refine ⟨_, rfl, ?_⟩; have n0_ := zA (zeq (by repeat (first | (with_reducible first | exact HB.out | apply zaq | apply zbq | apply zcq) | exact HB.out)) hb); clear HB; have HB := n0_; clear n0_; (try clear hb); (try clear hb2); (try clear hk); (try clear hi)) | ((with_reducible refine zoq (f := 66) rfl ?_); refine goesL_ (some 37) rfl rfl Try.func66 (by kernel_rfl) rfl #[.int .u64 a1, .int .u64 a0] rfl (by (try simp only [List.map_toArray, List.map_cons, List.map_nil]); first | done | rfl | (simp only [List.length_drop, List.length_take]; rfl)) ?_; (with_reducible refine (arith_Sub.calls k a1 a0 t956 _ A12.out).mono ?_); rintro e w73 ⟨rfl, hb⟩; refine ⟨_, rfl, ?_⟩; have n0_ := zA (zeq (by repeat (first | (with_reducible first | exact HB.out | apply zaq | apply zbq | apply zcq) | exact HB.out)) hb); clear HB; have HB := n0_; clear n0_; (try clear hb); (try clear hb2); (try clear hk); (try clear hi)) | ((with_reducible refine zoq (f := 68) rfl ?_); refine goesL_ (some 40) rfl rfl Try.func68 (by kernel_rfl) rfl #[.int .u64 a0, .int .u64 a1] rfl (by (try simp only [List.map_toArray, List.map_cons, List.map_nil]); first | done | rfl | (simp only [List.length_drop, List.length_take]; rfl)) ?_; (with_reducible refine (arith_Mul.calls k a0 a1 t957 _ A13.out).mono ?_); rintro e w74 ⟨rfl, hb⟩; refine ⟨_, rfl, ?_⟩; have n0_ := zA (zeq (by repeat (first | (with_reducible first | exact HB.out | apply zaq | apply zbq | apply zcq) | exact HB.out)) hb); clear HB; have HB := n0_; clear n0_; (try clear hb); (try clear hb2); (try clear hk); (try clear hi)) | ((with_reducible refine zoq (f := 33) rfl ?_); refine goesL_ (some 42) rfl rfl Try.func33 (by kernel_rfl) rfl #[.int .u64 a0] rfl (by (try simp only [List.map_toArray, List.map_cons, List.map_nil]); first | done | rfl | (simp only [List.length_drop, List.length_take]; rfl)) ?_; (with_reducible refine (tabardref3_Neg.calls k a0 t958 _ A14.out).mono ?_); rintro e w' ⟨rfl, ⟨nd, rfl⟩⟩; refine ⟨_, rfl, ?_⟩) | ((with_reducible refine zoq (f := 68) rfl ?_); refine goesL_ (some 44) rfl rfl Try.func68 (by kernel_rfl) rfl #[.int .u64 t958, .int .u64 a1] rfl (by (try simp only [List.map_toArray, List.map_cons, List.map_nil]); first | done | rfl | (simp only [List.length_drop, List.length_take]; rfl)) ?_; (with_reducible refine (arith_Mul.calls k t958 a1 t959 _ A15.out).mono ?_); rintro e w75 ⟨rfl, hb⟩; refine ⟨_, rfl, ?_⟩; have n0_ := zA (zeq (by repeat (first | (with_reducible first | exact HB.out | apply zaq | apply zbq | apply zcq) | exact HB.out)) hb); clear HB; have HB := n0_; clear n0_; (try clear hb); (try clear hb2); (try clear hk); (try clear hi)) | (go_at_call 33; (with_reducible refine (tabardref3_Neg.calls k t956 t964 _ A52.out).mono ?_); rintro e w' ⟨rfl, ⟨nd, rfl⟩⟩) | (go_at_call 33; (with_reducible refine (tabardref3_Neg.calls k t957 t966 _ A66.out).mono ?_); rintro e w' ⟨rfl, ⟨nd, rfl⟩⟩))
        go_ret
        exact ⟨by first | rfl | (simp [errW_none, errW_some] <;> rfl) | (simp [*, errW_none, errW_some] <;> rfl), by repeat (first | (with_reducible first | exact HB.out | apply zaq | apply zbq | apply zcq) | exact HB.out)⟩
       ·
        rw [if_neg c65] at H
        exact absurd H (by simp)
      ·
       rw [if_neg c64] at H
       exact absurd H (by simp)
   ·
    rw [if_neg c10] at H
    exact absurd H (by simp)
  ·
   rw [if_neg c7] at H
   exact absurd H (by simp)
 ·
  replace c4 := Bool.eq_false_iff.mpr c4
  subst c4
  have H1 : (none) = some r := by rw [if_neg (show ¬ (false = true) by decide)] at H; exact H
  clear H
  have H := H1
  clear H1
  exact absurd H (by simp)

/-- THE ONE PURE STATEMENT of tabardlaw4_ArithTurns: yours. -/
def tabardlaw4_ArithTurns.Pure : Prop := ∀ (a0 : Int) (a1 : Int), (Lit.int .u64 a0).wf = true → (Lit.int .u64 a1).wf = true → ∃ k, tabardlaw4_ArithTurns.f k a0 a1 = some true
theorem tabardlaw4_ArithTurns.walk (P : tabardlaw4_ArithTurns.Pure) (a0 : Int) (a1 : Int) (w : World) (w0 : (Lit.int .u64 a0).wf = true) (w1 : (Lit.int .u64 a1).wf = true) :
  Calls Try.prog 17 #[.int .u64 a0, .int .u64 a1] w fun e w' => e = .returned (.bool true) ∧ Below w.heap.size w w' := by
 obtain ⟨k, h⟩ := P a0 a1 w0 w1
 refine (tabardlaw4_ArithTurns.calls k a0 a1 true w h).mono ?_
 rintro e w' ⟨rfl, hd⟩
 exact ⟨rfl, hd⟩

end Go.Proofs.Ytbejjlecpcphoaa.P
