/- Sameness of parents; awake; the reference's own vector. -/
import Derived.Test.YtabibaamlhchbaaUpd
import Derived.WalkLawsBesides
import Derived.Laws.StructEq
namespace Go.Proofs.Ytabibaamlhchbaa
open Go.RowKit

def eqPar (p0 : Int) (p1 : Int) (p2 : Int) (p3 : Int) (p4 : Int) (p5 : Int) (p6 : Int) (p7 : Int) (p8 : Int) (p9 : Int) (p10 : Int) (p11 : Int) (q0 : Int) (q1 : Int) (q2 : Int) (q3 : Int) (q4 : Int) (q5 : Int) (q6 : Int) (q7 : Int) (q8 : Int) (q9 : Int) (q10 : Int) (q11 : Int) : Bool := decide (p0 = q0) && (decide (p1 = q1) && (decide (p2 = q2) && (decide (p3 = q3) && (decide (p4 = q4) && (decide (p5 = q5) && (decide (p6 = q6) && (decide (p7 = q7) && (decide (p8 = q8) && (decide (p9 = q9) && (decide (p10 = q10) && (decide (p11 = q11) && true)))))))))))
theorem eqPar_self (p0 : Int) (p1 : Int) (p2 : Int) (p3 : Int) (p4 : Int) (p5 : Int) (p6 : Int) (p7 : Int) (p8 : Int) (p9 : Int) (p10 : Int) (p11 : Int) : eqPar p0 p1 p2 p3 p4 p5 p6 p7 p8 p9 p10 p11 p0 p1 p2 p3 p4 p5 p6 p7 p8 p9 p10 p11 = true := by simp [eqPar]

theorem chain {c : Prop} [Decidable c] {b : Bool} {w : World} : (if c then Result.ok (Value.bool b) w else Result.ok (Value.bool false) w) = .ok (.bool (decide c && b)) w := by
  by_cases h : c <;> simp [h]

theorem stood42 : Try.prog.stoodInHeld 42 = false := by kernel_rfl
theorem stood46 : Try.prog.stoodInHeld 46 = false := by kernel_rfl

theorem eq42 (p0 : Int) (p1 : Int) (p2 : Int) (p3 : Int) (p4 : Int) (p5 : Int) (p6 : Int) (p7 : Int) (p8 : Int) (p9 : Int) (p10 : Int) (p11 : Int) (q0 : Int) (q1 : Int) (q2 : Int) (q3 : Int) (q4 : Int) (q5 : Int) (q6 : Int) (q7 : Int) (q8 : Int) (q9 : Int) (q10 : Int) (q11 : Int) (w : World) : (binOp .eql 42 (.agg #[.int .u64 p0, .int .i64 p1, .int .u64 p2, .int .i64 p3, .int .i64 p4, .int .i64 p5, .int .i64 p6, .int .i64 p7, .int .i64 p8, .int .i64 p9, .int .i64 p10, .int .i64 p11]) (.agg #[.int .u64 q0, .int .i64 q1, .int .u64 q2, .int .i64 q3, .int .i64 q4, .int .i64 q5, .int .i64 q6, .int .i64 q7, .int .i64 q8, .int .i64 q9, .int .i64 q10, .int .i64 q11])).run Try.prog w = .ok (.bool (eqPar p0 p1 p2 p3 p4 p5 p6 p7 p8 p9 p10 p11 q0 q1 q2 q3 q4 q5 q6 q7 q8 q9 q10 q11)) w := by
  rw [run_eql_struct, run_equalIn_agg (d := 9999) _ 42 _ _ (by kernel_rfl) stood42]
  simp [go_sem]
  simp only [chain]
  rfl

set_option maxRecDepth 100000 in
theorem same_any (p0 : Int) (p1 : Int) (p2 : Int) (p3 : Int) (p4 : Int) (p5 : Int) (p6 : Int) (p7 : Int) (p8 : Int) (p9 : Int) (p10 : Int) (p11 : Int) (q0 : Int) (q1 : Int) (q2 : Int) (q3 : Int) (q4 : Int) (q5 : Int) (q6 : Int) (q7 : Int) (q8 : Int) (q9 : Int) (q10 : Int) (q11 : Int) (w : World) :
    Calls Try.prog 21 #[.agg #[.int .u64 p0, .int .i64 p1, .int .u64 p2, .int .i64 p3, .int .i64 p4, .int .i64 p5, .int .i64 p6, .int .i64 p7, .int .i64 p8, .int .i64 p9, .int .i64 p10, .int .i64 p11], .agg #[.int .u64 q0, .int .i64 q1, .int .u64 q2, .int .i64 q3, .int .i64 q4, .int .i64 q5, .int .i64 q6, .int .i64 q7, .int .i64 q8, .int .i64 q9, .int .i64 q10, .int .i64 q11]] w fun e w' => e = .returned (.bool (eqPar p0 p1 p2 p3 p4 p5 p6 p7 p8 p9 p10 p11 q0 q1 q2 q3 q4 q5 q6 q7 q8 q9 q10 q11)) ∧ w.grownBy w' none := by
  have H := eq42 p0 p1 p2 p3 p4 p5 p6 p7 p8 p9 p10 p11 q0 q1 q2 q3 q4 q5 q6 q7 q8 q9 q10 q11
  go_enter Try.func21, Try.ntmps21
  go_wp2_with fail
  go_ret
  refine ⟨rfl, ?_⟩
  repeat (first | exact gb_refl _ _ | apply gb_alloc)

set_option maxRecDepth 100000 in
theorem own11_any (c0 : Int) (c1 : Int) (c2 : Int) (c3 : Int) (c4 : Int) (c5 : Int) (c6 : Int) (c7 : Int) (c8 : Bool) (c9 : Int) (c10 : Int) (c11 : Int) (c12 : Int) (c13 : Bool) (c14 : Bool) (c15 : Int) (c16 : Int) (c17 : Int) (c18 : Int) (c19 : Int) (c20 : Int) (c21 : Int) (c22 : Bool) (w : World) :
    Calls Try.prog 23 #[.agg #[.int .u64 c0, .int .i64 c1, .int .i64 c2, .int .i64 c3, .int .i64 c4, .int .i64 c5, .int .i64 c6, .int .i64 c7, .bool c8, .int .i64 c9, .int .i64 c10, .int .i64 c11, .int .i64 c12, .bool c13, .bool c14, .int .i64 c15, .int .i64 c16, .int .i64 c17, .int .i64 c18, .int .i64 c19, .int .i64 c20, .int .i64 c21, .bool c22]] w fun e w' => e = .returned (.agg #[.int .i64 c3, .int .i64 c5, .int .i64 c6, .int .i64 c7, .int .i64 c4, .int .u64 c0, .int .i64 0, .int .u64 c0, .int .i64 0, .int .u64 c0, .int .i64 0]) ∧ w.grownBy w' none := by
  go_enter Try.func23, Try.ntmps23
  go_wp2
  refine bodyPost_ret (v := .agg #[.int .i64 c3, .int .i64 c5, .int .i64 c6, .int .i64 c7, .int .i64 c4, .int .u64 c0, .int .i64 0, .int .u64 c0, .int .i64 0, .int .u64 c0, .int .i64 0]) (by simp [results, Try.results23, go_sem]) rfl ⟨rfl, ?_⟩
  repeat (first | exact gb_refl _ _ | apply gb_alloc | (refine gb_young (b := w.heap.size + 1) ?_ (gb_set (gb_refl _ _) _ _) (by omega)))

set_option maxRecDepth 100000 in
theorem awake_any (w : World) : Calls Try.prog 22 #[] w fun e w' => e = .returned (.bool true) ∧ w.grownBy w' none := by
  go_enter Try.func22, Try.ntmps22
  go_wp2_with fail
  refine (follow_any 0 0 0 0 0 9 0 0 0 0 0 37 0 0 _).mono ?_
  rintro e w1 ⟨rfl, hg⟩
  rw [show wrap64 (0 + 1) = 1 from by unfold wrap64; decide]
  go_wp2_with fail
  refine (same_any _ _ _ _ _ _ _ _ _ _ _ _ _ _ _ _ _ _ _ _ _ _ _ _ _).mono ?_
  rintro e w2 ⟨rfl, hg2⟩
  rw [eqPar_self]
  go_wp2_with fail
  go_ret
  refine ⟨rfl, gb_trans (gb_trans hg ?_) hg2⟩
  repeat (first | exact gb_refl _ _ | apply gb_alloc)
end Go.Proofs.Ytabibaamlhchbaa
