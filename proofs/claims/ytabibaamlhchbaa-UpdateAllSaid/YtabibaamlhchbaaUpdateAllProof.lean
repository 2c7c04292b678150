/- UpdateAll: for every input the law returns true and leaves its arguments as they were. No condition. (The frame of the row is the kit's skeleton; the walk stands in YtabibaamlhchbaaUpdateAll.) -/
import Derived.Test.YtabibaamlhchbaaUpdateAll
import Derived.WalkKit
import Derived.ProofKit
import Derived.OpenShut
import Derived.ShutString
import Derived.ChangeOld
import Derived.Below
namespace Go.Proofs.Ytabibaamlhchbaa.updateAll
open Go.ChangeShapes Go.WideShapes Go.ChangeAt Go.RowKit
open Go.ChangeMaps (open_string shut_string)
set_option linter.unusedVariables false

theorem own : ownKnob Try.prog.godebug = none := by kernel_rfl
theorem laidOut : laidOutB Try.prog = true := by kernel_rfl

theorem walk (c0 : Int) (c1 : Int) (c2 : Int) (c3 : Int) (c4 : Int) (c5 : Int) (c6 : Int) (c7 : Int) (c8 : Bool) (c9 : Int) (c10 : Int) (c11 : Int) (c12 : Int) (c13 : Bool) (c14 : Bool) (c15 : Int) (c16 : Int) (c17 : Int) (c18 : Int) (c19 : Int) (c20 : Int) (c21 : Int) (c22 : Bool) (v0 : Int) (v1 : Int) (v2 : Int) (v3 : Int) (v4 : Int) (v5 : Int) (v6 : Int) (v7 : Int) (v8 : Int) (v9 : Int) (v10 : Int) (t0 : Int) (t1 : Int) (t2 : Int) (p0 : Int) (p1 : Int) (p2 : Int) (p3 : Int) (p4 : Int) (p5 : Int) (p6 : Int) (p7 : Int) (p8 : Int) (p9 : Int) (p10 : Int) (p11 : Int) (x : Int) (y : Int) (w : World) :
    Calls Try.prog 4 #[.agg #[.int .u64 c0, .int .i64 c1, .int .i64 c2, .int .i64 c3, .int .i64 c4, .int .i64 c5, .int .i64 c6, .int .i64 c7, .bool c8, .int .i64 c9, .int .i64 c10, .int .i64 c11, .int .i64 c12, .bool c13, .bool c14, .int .i64 c15, .int .i64 c16, .int .i64 c17, .int .i64 c18, .int .i64 c19, .int .i64 c20, .int .i64 c21, .bool c22], .agg #[.int .i64 v0, .int .i64 v1, .int .i64 v2, .int .i64 v3, .int .i64 v4, .int .u64 v5, .int .i64 v6, .int .u64 v7, .int .i64 v8, .int .u64 v9, .int .i64 v10], .agg #[.int .i64 t0, .int .i64 t1, .int .i64 t2], .agg #[.int .u64 p0, .int .i64 p1, .int .u64 p2, .int .i64 p3, .int .i64 p4, .int .i64 p5, .int .i64 p6, .int .i64 p7, .int .i64 p8, .int .i64 p9, .int .i64 p10, .int .i64 p11], .int .i64 x, .int .i64 y] w fun e w' => e = .returned (.bool true) ∧ Below w.heap.size w w' :=
  updateAll_walk c0 c1 c2 c3 c4 c5 c6 c7 c8 c9 c10 c11 c12 c13 c14 c15 c16 c17 c18 c19 c20 c21 c22 v0 v1 v2 v3 v4 v5 v6 v7 v8 v9 v10 t0 t1 t2 p0 p1 p2 p3 p4 p5 p6 p7 p8 p9 p10 p11 x y w

/-! ### THE ROW's STEP: WRITTEN OUT: LEAVE IT -/
set_option maxRecDepth 100000 in
theorem lifted (os : Os) (started : os.Started) (H : Type) (enc : TypeId × Value → H) :
    ReturnsInHanded {} Try.checked os 4 .any (Rows.updateAllSpec.pre6 enc Try.prog Try.f4 Rows.updateAllRow.domain false) (Rows.updateAllSpec.post enc Try.prog Try.f4 false true false false) := by
  refine returnsInHanded_of_change (C := Try.checked) own started (by kernel_rfl) Try.func4
    (ChangeSpec.witness6 (enc := enc) (C := Try.checked) false ⟨#[], #[.agg #[.int .u64 0, .int .i64 0, .int .i64 0, .int .i64 0, .int .i64 0, .int .i64 0, .int .i64 0, .int .i64 0, .bool false, .int .i64 0, .int .i64 0, .int .i64 0, .int .i64 0, .bool false, .bool false, .int .i64 0, .int .i64 0, .int .i64 0, .int .i64 0, .int .i64 0, .int .i64 0, .int .i64 0, .bool false], .agg #[.int .i64 0, .int .i64 0, .int .i64 0, .int .i64 0, .int .i64 0, .int .u64 0, .int .i64 0, .int .u64 0, .int .i64 0, .int .u64 0, .int .i64 0], .agg #[.int .i64 0, .int .i64 0, .int .i64 0], .agg #[.int .u64 0, .int .i64 0, .int .u64 0, .int .i64 0, .int .i64 0, .int .i64 0, .int .i64 0, .int .i64 0, .int .i64 0, .int .i64 0, .int .i64 0, .int .i64 0], .int .i64 0, .int .i64 0], []⟩ 8 (by kernel_rfl) (by kernel_rfl) (by kernel_rfl) (by kernel_rfl)) ?_
  intro W base args ds gs before hval0 hW hcnd _
  have hval : ∀ (j : Nat) t v, Try.f4.params[j]? = some t → args[j]? = some v → Value.okWide Try.prog W .any base t v := hval0
  have hW' := hW
  obtain ⟨p, q, hA0, hV, rfl, hfz, hnd⟩ := hW
  have hA : DataW.TrodAll enc Try.prog W 0 (fun _ => true) true Try.f4.params.toList args.toList ds p := hA0
  rw [Try.params4] at hA hval
  obtain ⟨v0_, vs0, d0, ds0, q0_, r0_, hargs, rfl, rfl, h0, r0⟩ := trodAll_cons hA
  obtain ⟨v1_, vs1, d1, ds1, q1_, r1_, rfl, rfl, rfl, h1, r1⟩ := trodAll_cons r0
  obtain ⟨v2_, vs2, d2, ds2, q2_, r2_, rfl, rfl, rfl, h2, r2⟩ := trodAll_cons r1
  obtain ⟨v3_, vs3, d3, ds3, q3_, r3_, rfl, rfl, rfl, h3, r3⟩ := trodAll_cons r2
  obtain ⟨v4_, vs4, d4, ds4, q4_, r4_, rfl, rfl, rfl, h4, r4⟩ := trodAll_cons r3
  obtain ⟨v5_, vs5, d5, ds5, q5_, r5_, rfl, rfl, rfl, h5, r5⟩ := trodAll_cons r4
  obtain ⟨rfl, rfl, rfl⟩ := trodAll_nil r5
  obtain rfl : args = #[v0_, v1_, v2_, v3_, v4_, v5_] := by cases args; simp_all
  obtain ⟨rfl, rfl⟩ := trodVars_none hV
  have k0 := h0
  have lt0 : ∀ x ∈ q0_, x.block < W.heap.size := by obtain ⟨m, hm⟩ := k0; exact DataW.trod_lt m _ _ _ hm
  obtain ⟨c0, c1, c2, c3, c4, c5, c6, c7, c8, c9, c10, c11, c12, c13, c14, c15, c16, c17, c18, c19, c20, c21, c22, rfl⟩ := open_conf (hval 0 36 v0_ rfl rfl)
  have k1 := h1
  have lt1 : ∀ x ∈ q1_, x.block < W.heap.size := by obtain ⟨m, hm⟩ := k1; exact DataW.trod_lt m _ _ _ hm
  obtain ⟨v0, v1, v2, v3, v4, v5, v6, v7, v8, v9, v10, rfl⟩ := open_vec (hval 1 40 v1_ rfl rfl)
  have k2 := h2
  have lt2 : ∀ x ∈ q2_, x.block < W.heap.size := by obtain ⟨m, hm⟩ := k2; exact DataW.trod_lt m _ _ _ hm
  obtain ⟨t0, t1, t2, rfl⟩ := open_times (hval 2 34 v2_ rfl rfl)
  have k3 := h3
  have lt3 : ∀ x ∈ q3_, x.block < W.heap.size := by obtain ⟨m, hm⟩ := k3; exact DataW.trod_lt m _ _ _ hm
  obtain ⟨p0, p1, p2, p3, p4, p5, p6, p7, p8, p9, p10, p11, rfl⟩ := open_par (hval 3 42 v3_ rfl rfl)
  obtain ⟨x, rfl, rfl, rfl, w4⟩ := open_int Try.underlying3 (hval 4 3 v4_ rfl rfl) h4
  obtain ⟨y, rfl, rfl, rfl, w5⟩ := open_int Try.underlying3 (hval 5 3 v5_ rfl rfl) h5
  clear hA0 hval0
  refine (walk c0 c1 c2 c3 c4 c5 c6 c7 c8 c9 c10 c11 c12 c13 c14 c15 c16 c17 c18 c19 c20 c21 c22 v0 v1 v2 v3 v4 v5 v6 v7 v8 v9 v10 t0 t1 t2 p0 p1 p2 p3 p4 p5 p6 p7 p8 p9 p10 p11 x y W).mono fun e W' ⟨he, bel⟩ => ?_
  subst he
  exact ⟨_, rfl, _, _, _, [], _, [], hW', trodAll_mk1 (shut_bool Try.underlying4 _), (trodAll_cons_mk (Below.trod laidOut (by kernel_rfl) (of_decide_eq_true (by kernel_rfl)) k0 bel lt0) (trodAll_cons_mk (Below.trod laidOut (by kernel_rfl) (of_decide_eq_true (by kernel_rfl)) k1 bel lt1) (trodAll_cons_mk (Below.trod laidOut (by kernel_rfl) (of_decide_eq_true (by kernel_rfl)) k2 bel lt2) (trodAll_cons_mk (Below.trod laidOut (by kernel_rfl) (of_decide_eq_true (by kernel_rfl)) k3 bel lt3) (trodAll_cons_mk (shut_int Try.underlying3 w4) (trodAll_cons_mk (shut_int Try.underlying3 w5) trodAll_mk0)))))), rfl, bel.frame _, fun h => by cases h⟩

theorem over : Rows.updateAllRow.holds Try.pinned (OpenSpec.ofChange Rows.updateAllSpec) :=
  OpenClaim.holds_of_wide 4 Try.f4 rfl rfl rfl rfl rfl rfl rfl ⟨rfl, rfl, rfl, rfl, rfl⟩ rfl rfl rfl rfl rfl (by kernel_rfl) Try.func4 (by kernel_rfl)
    (of_decide_eq_true (by kernel_rfl)) (by unfold Func.isWrapper; first | (rw [if_pos (by decide +kernel)]; kernel_rfl) | (rw [if_neg (by decide +kernel)]; exact ⟨rfl, rfl⟩))
    (fun os started H enc _ => lifted os started H enc)

theorem proved : Rows.UpdateAllSaid := over
#print axioms proved
end Go.Proofs.Ytabibaamlhchbaa.updateAll
