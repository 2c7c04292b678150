/- Contracts of update.Own, Follow, Say, Same and of the reference's. -/
import Derived.Test.YtabibaamlhchbaaObj
namespace Go.Proofs.Ytabibaamlhchbaa
open Go.RowKit

set_option maxRecDepth 100000 in
theorem own_any (c0 : Int) (c1 : Int) (c2 : Int) (c3 : Int) (c4 : Int) (c5 : Int) (c6 : Int) (c7 : Int) (c8 : Bool) (c9 : Int) (c10 : Int) (c11 : Int) (c12 : Int) (c13 : Bool) (c14 : Bool) (c15 : Int) (c16 : Int) (c17 : Int) (c18 : Int) (c19 : Int) (c20 : Int) (c21 : Int) (c22 : Bool) (w : World) :
    Calls Try.prog 15 #[.agg #[.int .u64 c0, .int .i64 c1, .int .i64 c2, .int .i64 c3, .int .i64 c4, .int .i64 c5, .int .i64 c6, .int .i64 c7, .bool c8, .int .i64 c9, .int .i64 c10, .int .i64 c11, .int .i64 c12, .bool c13, .bool c14, .int .i64 c15, .int .i64 c16, .int .i64 c17, .int .i64 c18, .int .i64 c19, .int .i64 c20, .int .i64 c21, .bool c22]] w fun e w' => e = .returned (.agg #[.int .u64 c0, .int .i64 0, .int .u64 c0, .int .i64 c5, .int .i64 c6, .int .i64 c7, .int .i64 c3, .int .i64 c4, .int .i64 0, .int .i64 c19, .int .i64 c20, .int .i64 c21]) ∧ w.grownBy w' none := by
  go_enter Try.func15, Try.ntmps15
  go_wp2
  refine bodyPost_ret (v := .agg #[.int .u64 c0, .int .i64 0, .int .u64 c0, .int .i64 c5, .int .i64 c6, .int .i64 c7, .int .i64 c3, .int .i64 c4, .int .i64 0, .int .i64 c19, .int .i64 c20, .int .i64 c21]) (by simp [results, Try.results15, go_sem]) rfl ⟨rfl, ?_⟩
  repeat (first | exact gb_refl _ _ | apply gb_alloc)

set_option maxRecDepth 100000 in
theorem rown_any (c0 : Int) (c1 : Int) (c2 : Int) (c3 : Int) (c4 : Int) (c5 : Int) (c6 : Int) (c7 : Int) (c8 : Bool) (c9 : Int) (c10 : Int) (c11 : Int) (c12 : Int) (c13 : Bool) (c14 : Bool) (c15 : Int) (c16 : Int) (c17 : Int) (c18 : Int) (c19 : Int) (c20 : Int) (c21 : Int) (c22 : Bool) (w : World) :
    Calls Try.prog 16 #[.agg #[.int .u64 c0, .int .i64 c1, .int .i64 c2, .int .i64 c3, .int .i64 c4, .int .i64 c5, .int .i64 c6, .int .i64 c7, .bool c8, .int .i64 c9, .int .i64 c10, .int .i64 c11, .int .i64 c12, .bool c13, .bool c14, .int .i64 c15, .int .i64 c16, .int .i64 c17, .int .i64 c18, .int .i64 c19, .int .i64 c20, .int .i64 c21, .bool c22]] w fun e w' => e = .returned (.agg #[.int .u64 c0, .int .i64 0, .int .u64 c0, .int .i64 c5, .int .i64 c6, .int .i64 c7, .int .i64 c3, .int .i64 c4, .int .i64 0, .int .i64 c19, .int .i64 c20, .int .i64 c21]) ∧ w.grownBy w' none := by
  go_enter Try.func16, Try.ntmps16
  go_wp2
  refine bodyPost_ret (v := .agg #[.int .u64 c0, .int .i64 0, .int .u64 c0, .int .i64 c5, .int .i64 c6, .int .i64 c7, .int .i64 c3, .int .i64 c4, .int .i64 0, .int .i64 c19, .int .i64 c20, .int .i64 c21]) (by simp [results, Try.results16, go_sem]) rfl ⟨rfl, ?_⟩
  repeat (first | exact gb_refl _ _ | apply gb_alloc)

set_option maxRecDepth 100000 in
theorem follow_any (v0 : Int) (v1 : Int) (v2 : Int) (v3 : Int) (v4 : Int) (v5 : Int) (v6 : Int) (v7 : Int) (v8 : Int) (v9 : Int) (v10 : Int) (t0 : Int) (t1 : Int) (t2 : Int) (w : World) :
    Calls Try.prog 17 #[.agg #[.int .i64 v0, .int .i64 v1, .int .i64 v2, .int .i64 v3, .int .i64 v4, .int .u64 v5, .int .i64 v6, .int .u64 v7, .int .i64 v8, .int .u64 v9, .int .i64 v10], .agg #[.int .i64 t0, .int .i64 t1, .int .i64 t2]] w fun e w' => e = .returned (.agg #[.int .u64 v7, .int .i64 v8, .int .u64 v5, .int .i64 v1, .int .i64 v2, .int .i64 v3, .int .i64 v0, .int .i64 v4, .int .i64 (wrap64 (v6 + 1)), .int .i64 t0, .int .i64 t1, .int .i64 t2]) ∧ w.grownBy w' none := by
  go_enter Try.func17, Try.ntmps17
  go_wp2
  refine bodyPost_ret (v := .agg #[.int .u64 v7, .int .i64 v8, .int .u64 v5, .int .i64 v1, .int .i64 v2, .int .i64 v3, .int .i64 v0, .int .i64 v4, .int .i64 (wrap64 (v6 + 1)), .int .i64 t0, .int .i64 t1, .int .i64 t2]) (by simp [results, Try.results17, go_sem]) rfl ⟨rfl, ?_⟩
  repeat (first | exact gb_refl _ _ | apply gb_alloc)

set_option maxRecDepth 100000 in
theorem rfollow_any (v0 : Int) (v1 : Int) (v2 : Int) (v3 : Int) (v4 : Int) (v5 : Int) (v6 : Int) (v7 : Int) (v8 : Int) (v9 : Int) (v10 : Int) (t0 : Int) (t1 : Int) (t2 : Int) (w : World) :
    Calls Try.prog 18 #[.agg #[.int .i64 v0, .int .i64 v1, .int .i64 v2, .int .i64 v3, .int .i64 v4, .int .u64 v5, .int .i64 v6, .int .u64 v7, .int .i64 v8, .int .u64 v9, .int .i64 v10], .agg #[.int .i64 t0, .int .i64 t1, .int .i64 t2]] w fun e w' => e = .returned (.agg #[.int .u64 v7, .int .i64 v8, .int .u64 v5, .int .i64 v1, .int .i64 v2, .int .i64 v3, .int .i64 v0, .int .i64 v4, .int .i64 (wrap64 (v6 + 1)), .int .i64 t0, .int .i64 t1, .int .i64 t2]) ∧ w.grownBy w' none := by
  go_enter Try.func18, Try.ntmps18
  go_wp2
  refine bodyPost_ret (v := .agg #[.int .u64 v7, .int .i64 v8, .int .u64 v5, .int .i64 v1, .int .i64 v2, .int .i64 v3, .int .i64 v0, .int .i64 v4, .int .i64 (wrap64 (v6 + 1)), .int .i64 t0, .int .i64 t1, .int .i64 t2]) (by simp [results, Try.results18, go_sem]) rfl ⟨rfl, ?_⟩
  repeat (first | exact gb_refl _ _ | apply gb_alloc)

end Go.Proofs.Ytabibaamlhchbaa
