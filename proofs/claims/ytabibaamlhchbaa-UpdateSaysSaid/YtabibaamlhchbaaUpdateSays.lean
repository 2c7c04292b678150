/- The walk of UpdateSays. -/
import Derived.Test.YtabibaamlhchbaaUpdateLine
import Derived.Deep.DeepCutAuto
namespace Go.Proofs.Ytabibaamlhchbaa
open Go.RowKit
attribute [local go_sem] max_two min_two max2_max min2_min
attribute [local go_sem ↓] Go.wp_at_zero Go.wp_at_succ


theorem Try.siz34 : (Try.prog.info? 34).map (·.size) = some 3 := by kernel_rfl

set_option maxHeartbeats 8000000 in
set_option maxRecDepth 100000 in
theorem updateSays_walk (c0 : Int) (c1 : Int) (c2 : Int) (c3 : Int) (c4 : Int) (c5 : Int) (c6 : Int) (c7 : Int) (c8 : Bool) (c9 : Int) (c10 : Int) (c11 : Int) (c12 : Int) (c13 : Bool) (c14 : Bool) (c15 : Int) (c16 : Int) (c17 : Int) (c18 : Int) (c19 : Int) (c20 : Int) (c21 : Int) (c22 : Bool) (v0 : Int) (v1 : Int) (v2 : Int) (v3 : Int) (v4 : Int) (v5 : Int) (v6 : Int) (v7 : Int) (v8 : Int) (v9 : Int) (v10 : Int) (t0 : Int) (t1 : Int) (t2 : Int) (x y : Int) (w : World) :
    Calls Try.prog 5 #[.agg #[.int .u64 c0, .int .i64 c1, .int .i64 c2, .int .i64 c3, .int .i64 c4, .int .i64 c5, .int .i64 c6, .int .i64 c7, .bool c8, .int .i64 c9, .int .i64 c10, .int .i64 c11, .int .i64 c12, .bool c13, .bool c14, .int .i64 c15, .int .i64 c16, .int .i64 c17, .int .i64 c18, .int .i64 c19, .int .i64 c20, .int .i64 c21, .bool c22], .agg #[.int .i64 v0, .int .i64 v1, .int .i64 v2, .int .i64 v3, .int .i64 v4, .int .u64 v5, .int .i64 v6, .int .u64 v7, .int .i64 v8, .int .u64 v9, .int .i64 v10], .agg #[.int .i64 t0, .int .i64 t1, .int .i64 t2], .int .i64 x, .int .i64 y] w fun e w' => e = .returned (.bool true) ∧ Below w.heap.size w w' := by
  go_enter Try.func5, Try.ntmps5
  go_upto_region 1 with (fail)
  refine with3 (motive := fun w' => Code.wp Try.prog _ _ _ w') ?_
  intro w3 hA hV hT hg hs3
  have cv : w3.cell? ⟨w.heap.size + 1, 6, none⟩ = some (.int .i64 v6) := Blk.cell hV 6
  have fv : w3.frozen? ⟨w.heap.size + 1, 6, none⟩ = false := Blk.free hV 6
  go_upto_region 2 with (fail)
  have hA6 := Blk.other hA (gb_set (gb_refl w3 (some (w.heap.size + 1))) 6 (.int .i64 (bits BinOp.and IntKind.i64 v6 65535))) (by simp)
  have hT6 : Blk _ (w.heap.size + 1 + 1) 34 _ := Blk.other hT (gb_set (gb_refl w3 (some (w.heap.size + 1))) 6 (.int .i64 (bits BinOp.and IntKind.i64 v6 65535))) (by simp)
  have hV6 : Blk _ (w.heap.size + 1) 40 #[.int .i64 v0, .int .i64 v1, .int .i64 v2, .int .i64 v3, .int .i64 v4, .int .u64 v5, .int .i64 (bits BinOp.and IntKind.i64 v6 65535), .int .u64 v7, .int .i64 v8, .int .u64 v9, .int .i64 v10] := Blk.set hV 6 (.int .i64 (bits BinOp.and IntKind.i64 v6 65535))
  have hg6 := gb_young hg (gb_set (gb_refl w3 (some (w.heap.size + 1))) 6 (.int .i64 (bits BinOp.and IntKind.i64 v6 65535))) (by omega)
  clear hA hV hT hg hs3 cv fv
  generalize bits BinOp.and IntKind.i64 v6 65535 = s6 at *
  generalize w3.setCell ⟨w.heap.size + 1, 6, none⟩ (.int .i64 s6) = w6 at *
  have hs6 := Blk.lt hT6
  go_cut [11] (fun s11 wx => ∃ g, s11 = .pointer (some ⟨g, 0, none⟩) ∧ Blk wx g 46 #[.int .i64 11, .int .i64 c2, .int .i64 t1, .int .i64 0, .int .u64 c0, .int .i64 x, .int .i64 y, .int .i64 c9, .int .i64 0, .int .u64 0, .int .i64 0, .int .i64 t0, .int .i64 v0, .int .i64 v1, .int .i64 v2, .int .i64 v3, .int .i64 v4, .int .u64 v5, .int .i64 (wrap64 (s6 + 1)), .int .i64 t2, .int .i64 0, .int .i64 0, .int .i64 0] ∧ Blk wx w.heap.size 36 #[.int .u64 c0, .int .i64 c1, .int .i64 c2, .int .i64 c3, .int .i64 c4, .int .i64 c5, .int .i64 c6, .int .i64 c7, .bool c8, .int .i64 c9, .int .i64 c10, .int .i64 c11, .int .i64 c12, .bool c13, .bool c14, .int .i64 c15, .int .i64 c16, .int .i64 c17, .int .i64 c18, .int .i64 c19, .int .i64 c20, .int .i64 c21, .bool c22] ∧ Blk wx (w.heap.size + 1) 40 #[.int .i64 v0, .int .i64 v1, .int .i64 v2, .int .i64 v3, .int .i64 v4, .int .u64 v5, .int .i64 s6, .int .u64 v7, .int .i64 v8, .int .u64 v9, .int .i64 v10] ∧ Blk wx (w.heap.size + 1 + 1) 34 #[.int .i64 t0, .int .i64 t1, .int .i64 t2] ∧ w.grownBy wx none)
  case first =>
    have hHA := hA6
    have hHV := hV6
    have hHT := hT6
    refine wp_region_noPanic ?_
    refine wp_region_held_drew (S := fun w' => Blk w' w.heap.size 36 #[.int .u64 c0, .int .i64 c1, .int .i64 c2, .int .i64 c3, .int .i64 c4, .int .i64 c5, .int .i64 c6, .int .i64 c7, .bool c8, .int .i64 c9, .int .i64 c10, .int .i64 c11, .int .i64 c12, .bool c13, .bool c14, .int .i64 c15, .int .i64 c16, .int .i64 c17, .int .i64 c18, .int .i64 c19, .int .i64 c20, .int .i64 c21, .bool c22] ∧ Blk w' (w.heap.size + 1) 40 #[.int .i64 v0, .int .i64 v1, .int .i64 v2, .int .i64 v3, .int .i64 v4, .int .u64 v5, .int .i64 s6, .int .u64 v7, .int .i64 v8, .int .u64 v9, .int .i64 v10] ∧ Blk w' (w.heap.size + 1 + 1) 34 #[.int .i64 t0, .int .i64 t1, .int .i64 t2]) (by kernel_rfl) ⟨Blk.drew hHA, Blk.drew hHV, Blk.drew hHT⟩ (fun hHeld => ?_)
    refine wpAnyH_take (i := 0) (v := .agg #[.int .u64 c0, .int .i64 c1, .int .i64 c2, .int .i64 c3, .int .i64 c4, .int .i64 c5, .int .i64 c6, .int .i64 c7, .bool c8, .int .i64 c9, .int .i64 c10, .int .i64 c11, .int .i64 c12, .bool c13, .bool c14, .int .i64 c15, .int .i64 c16, .int .i64 c17, .int .i64 c18, .int .i64 c19, .int .i64 c20, .int .i64 c21, .bool c22]) rfl (by kernel_rfl) (by kernel_rfl) (by kernel_rfl) (fun _ _ _ h => h) (yieldsIf_load_mid (by rfl) 36 (.tmp 5) rfl w.heap.size 0 rfl [.int .u64 c0, .int .i64 c1, .int .i64 c2, .int .i64 c3, .int .i64 c4, .int .i64 c5, .int .i64 c6, .int .i64 c7, .bool c8, .int .i64 c9, .int .i64 c10, .int .i64 c11, .int .i64 c12, .bool c13, .bool c14, .int .i64 c15, .int .i64 c16, .int .i64 c17, .int .i64 c18, .int .i64 c19, .int .i64 c20, .int .i64 c21, .bool c22] _ (fun _ h => Blk.range h.1) Try.underlying36 rfl Try.siz36) hHeld ?_
    refine wpAnyH_take (i := 1) (v := .agg #[.int .i64 v0, .int .i64 v1, .int .i64 v2, .int .i64 v3, .int .i64 v4, .int .u64 v5, .int .i64 s6, .int .u64 v7, .int .i64 v8, .int .u64 v9, .int .i64 v10]) rfl (by kernel_rfl) (by kernel_rfl) (by kernel_rfl) (fun _ _ _ h => h) (yieldsIf_load_mid (by rfl) 40 (.tmp 6) rfl (w.heap.size + 1) 0 rfl [.int .i64 v0, .int .i64 v1, .int .i64 v2, .int .i64 v3, .int .i64 v4, .int .u64 v5, .int .i64 s6, .int .u64 v7, .int .i64 v8, .int .u64 v9, .int .i64 v10] _ (fun _ h => Blk.range h.2.1) Try.underlying40 rfl Try.siz40) hHeld ?_
    refine wpAnyH_take (i := 2) (v := .agg #[.int .i64 t0, .int .i64 t1, .int .i64 t2]) rfl (by kernel_rfl) (by kernel_rfl) (by kernel_rfl) (fun _ _ _ h => h) (yieldsIf_load_mid (by rfl) 34 (.tmp 7) rfl (w.heap.size + 1 + 1) 0 rfl [.int .i64 t0, .int .i64 t1, .int .i64 t2] _ (fun _ h => Blk.range h.2.2) Try.underlying34 rfl Try.siz34) hHeld ?_
    refine wpAnyH_take (i := 4) (v := .int .i64 x) rfl (by kernel_rfl) (by kernel_rfl) (by kernel_rfl) (fun _ _ _ h => h) (Or.inl ⟨by rfl, fun _ _ => by rfl⟩) hHeld ?_
    refine wpAnyH_take (i := 5) (v := .int .i64 y) rfl (by kernel_rfl) (by kernel_rfl) (by kernel_rfl) (fun _ _ _ h => h) (Or.inl ⟨by rfl, fun _ _ => by rfl⟩) hHeld ?_
    refine wpAnyH_ready (rs := [3, 7]) (by kernel_rfl) (by simp) ?_
    refine AllReadyH.cons rfl (fun K hK => ?_) (AllReadyH.cons rfl (fun K hK => ?_) AllReadyH.nil)
    · rw [if_pos (by rfl)]
      go_simp
      refine (follow_any v0 v1 v2 v3 v4 v5 s6 v7 v8 v9 v10 t0 t1 t2 _).mono ?_
      rintro e w7 ⟨rfl, hg7⟩
      have hs7 : w6.heap.size ≤ w7.heap.size := by first | exact hg7.size | (have := hg7.size; simp at this; omega)
      have hA7 := Blk.other (Blk.drew hHA) hg7 (by simp)
      have hV7 := Blk.other (Blk.drew hHV) hg7 (by simp)
      have hT7 := Blk.other (Blk.drew hHT) hg7 (by simp)
      go_wp2_with fail
      refine hK.out _ _ ⟨hA7, hV7, hT7⟩ (fun hHeld => ?_)
      clear hK K
      refine wpAnyH_ready (rs := [6, 7]) (by kernel_rfl) (by simp) ?_
      refine AllReadyH.cons rfl (fun K hK => ?_) (AllReadyH.cons rfl (fun K hK => ?_) AllReadyH.nil)
      · rw [if_pos (by rfl)]
        go_simp
        refine (say_any c0 c1 c2 c3 c4 c5 c6 c7 c8 c9 c10 c11 c12 c13 c14 c15 c16 c17 c18 c19 c20 c21 c22 v7 v8 v5 v1 v2 v3 v0 v4 (wrap64 (s6 + 1)) t0 t1 t2 x y _).mono ?_
        rintro e w8 ⟨rfl, hg8⟩
        have hs8 : w7.heap.size ≤ w8.heap.size := by first | exact hg8.size | (have := hg8.size; simp at this; omega)
        have hA8 := Blk.other hA7 hg8 (by simp)
        have hV8 := Blk.other hV7 hg8 (by simp)
        have hT8 := Blk.other hT7 hg8 (by simp)
        go_wp2_with fail
        refine hK.out _ _ ⟨hA8, hV8, hT8⟩ (fun hHeld => ?_)
        clear hK K
        refine wpAnyH_ready (rs := [7]) (by kernel_rfl) (by simp) ?_
        refine AllReadyH.cons rfl (fun K hK => ?_) AllReadyH.nil
        rw [if_pos (by rfl)]
        go_simp
        refine hK.out _ _ ⟨Blk.alloc hA8 _, Blk.alloc hV8 _, Blk.alloc hT8 _⟩ (fun hHeld => ?_)
        clear hK K
        refine wpAnyH_ready (rs := [8]) (by kernel_rfl) (by simp) ?_
        refine AllReadyH.cons rfl (fun K hK => ?_) AllReadyH.nil
        rw [if_pos (by rfl)]
        refine wp_store_row 46 (.tmp 11) (.tmp 24) rfl w8.heap.size #[.int .i64 11, .int .i64 c2, .int .i64 t1, .int .i64 0, .int .u64 c0, .int .i64 x, .int .i64 y, .int .i64 c9, .int .i64 0, .int .u64 0, .int .i64 0, .int .i64 t0, .int .i64 v0, .int .i64 v1, .int .i64 v2, .int .i64 v3, .int .i64 v4, .int .u64 v5, .int .i64 (wrap64 (s6 + 1)), .int .i64 t2, .int .i64 0, .int .i64 0, .int .i64 0] rfl rfl 46 #[.int .i64 0, .int .i64 0, .int .i64 0, .int .i64 0, .int .u64 0, .int .i64 0, .int .i64 0, .int .i64 0, .int .i64 0, .int .u64 0, .int .i64 0, .int .i64 0, .int .i64 0, .int .i64 0, .int .i64 0, .int .i64 0, .int .i64 0, .int .u64 0, .int .i64 0, .int .i64 0, .int .i64 0, .int .i64 0, .int .i64 0] (Blk.new w8 46 #[.int .i64 0, .int .i64 0, .int .i64 0, .int .i64 0, .int .u64 0, .int .i64 0, .int .i64 0, .int .i64 0, .int .i64 0, .int .u64 0, .int .i64 0, .int .i64 0, .int .i64 0, .int .i64 0, .int .i64 0, .int .i64 0, .int .i64 0, .int .u64 0, .int .i64 0, .int .i64 0, .int .i64 0, .int .i64 0, .int .i64 0]) (by kernel_rfl) rfl (by simp [Value.oneCell']) ?_
        have hM9 := Blk.setRow (Blk.new w8 46 #[.int .i64 0, .int .i64 0, .int .i64 0, .int .i64 0, .int .u64 0, .int .i64 0, .int .i64 0, .int .i64 0, .int .i64 0, .int .u64 0, .int .i64 0, .int .i64 0, .int .i64 0, .int .i64 0, .int .i64 0, .int .i64 0, .int .i64 0, .int .u64 0, .int .i64 0, .int .i64 0, .int .i64 0, .int .i64 0, .int .i64 0]) #[.int .i64 11, .int .i64 c2, .int .i64 t1, .int .i64 0, .int .u64 c0, .int .i64 x, .int .i64 y, .int .i64 c9, .int .i64 0, .int .u64 0, .int .i64 0, .int .i64 t0, .int .i64 v0, .int .i64 v1, .int .i64 v2, .int .i64 v3, .int .i64 v4, .int .u64 v5, .int .i64 (wrap64 (s6 + 1)), .int .i64 t2, .int .i64 0, .int .i64 0, .int .i64 0]
        have hA9 := Blk.other (Blk.alloc hA8 (.cells #[.int .i64 0, .int .i64 0, .int .i64 0, .int .i64 0, .int .u64 0, .int .i64 0, .int .i64 0, .int .i64 0, .int .i64 0, .int .u64 0, .int .i64 0, .int .i64 0, .int .i64 0, .int .i64 0, .int .i64 0, .int .i64 0, .int .i64 0, .int .u64 0, .int .i64 0, .int .i64 0, .int .i64 0, .int .i64 0, .int .i64 0] 46)) (gb_row _ w8.heap.size #[.int .i64 11, .int .i64 c2, .int .i64 t1, .int .i64 0, .int .u64 c0, .int .i64 x, .int .i64 y, .int .i64 c9, .int .i64 0, .int .u64 0, .int .i64 0, .int .i64 t0, .int .i64 v0, .int .i64 v1, .int .i64 v2, .int .i64 v3, .int .i64 v4, .int .u64 v5, .int .i64 (wrap64 (s6 + 1)), .int .i64 t2, .int .i64 0, .int .i64 0, .int .i64 0]) (by simp; omega)
        have hV9 := Blk.other (Blk.alloc hV8 (.cells #[.int .i64 0, .int .i64 0, .int .i64 0, .int .i64 0, .int .u64 0, .int .i64 0, .int .i64 0, .int .i64 0, .int .i64 0, .int .u64 0, .int .i64 0, .int .i64 0, .int .i64 0, .int .i64 0, .int .i64 0, .int .i64 0, .int .i64 0, .int .u64 0, .int .i64 0, .int .i64 0, .int .i64 0, .int .i64 0, .int .i64 0] 46)) (gb_row _ w8.heap.size #[.int .i64 11, .int .i64 c2, .int .i64 t1, .int .i64 0, .int .u64 c0, .int .i64 x, .int .i64 y, .int .i64 c9, .int .i64 0, .int .u64 0, .int .i64 0, .int .i64 t0, .int .i64 v0, .int .i64 v1, .int .i64 v2, .int .i64 v3, .int .i64 v4, .int .u64 v5, .int .i64 (wrap64 (s6 + 1)), .int .i64 t2, .int .i64 0, .int .i64 0, .int .i64 0]) (by simp; omega)
        have hT9 := Blk.other (Blk.alloc hT8 (.cells #[.int .i64 0, .int .i64 0, .int .i64 0, .int .i64 0, .int .u64 0, .int .i64 0, .int .i64 0, .int .i64 0, .int .i64 0, .int .u64 0, .int .i64 0, .int .i64 0, .int .i64 0, .int .i64 0, .int .i64 0, .int .i64 0, .int .i64 0, .int .u64 0, .int .i64 0, .int .i64 0, .int .i64 0, .int .i64 0, .int .i64 0] 46)) (gb_row _ w8.heap.size #[.int .i64 11, .int .i64 c2, .int .i64 t1, .int .i64 0, .int .u64 c0, .int .i64 x, .int .i64 y, .int .i64 c9, .int .i64 0, .int .u64 0, .int .i64 0, .int .i64 t0, .int .i64 v0, .int .i64 v1, .int .i64 v2, .int .i64 v3, .int .i64 v4, .int .u64 v5, .int .i64 (wrap64 (s6 + 1)), .int .i64 t2, .int .i64 0, .int .i64 0, .int .i64 0]) (by simp; omega)
        have hg9 := gb_setRow (gb_alloc (gb_trans (gb_trans (gb_drew hg6) hg7) hg8) (.cells #[.int .i64 0, .int .i64 0, .int .i64 0, .int .i64 0, .int .u64 0, .int .i64 0, .int .i64 0, .int .i64 0, .int .i64 0, .int .u64 0, .int .i64 0, .int .i64 0, .int .i64 0, .int .i64 0, .int .i64 0, .int .i64 0, .int .i64 0, .int .u64 0, .int .i64 0, .int .i64 0, .int .i64 0, .int .i64 0, .int .i64 0] 46)) (b := w8.heap.size) (by omega) #[.int .i64 11, .int .i64 c2, .int .i64 t1, .int .i64 0, .int .u64 c0, .int .i64 x, .int .i64 y, .int .i64 c9, .int .i64 0, .int .u64 0, .int .i64 0, .int .i64 t0, .int .i64 v0, .int .i64 v1, .int .i64 v2, .int .i64 v3, .int .i64 v4, .int .u64 v5, .int .i64 (wrap64 (s6 + 1)), .int .i64 t2, .int .i64 0, .int .i64 0, .int .i64 0]
        refine hK.out _ _ ⟨hA9, hV9, hT9⟩ (fun hHeld => ?_)
        clear hK K
        refine wpAnyH_done (by kernel_rfl) ?_ _
        refine NoPanic.normal ?_
        go_wp2_with fail
        go_meet
        exact ⟨w8.heap.size, rfl, hM9, hA9, hV9, hT9, hg9⟩
      · rw [if_pos (by rfl)]
        go_simp
        refine hK.out _ _ ⟨Blk.alloc hA7 _, Blk.alloc hV7 _, Blk.alloc hT7 _⟩ (fun hHeld => ?_)
        clear hK K
        refine wpAnyH_ready (rs := [6]) (by kernel_rfl) (by simp) ?_
        refine AllReadyH.cons rfl (fun K hK => ?_) AllReadyH.nil
        rw [if_pos (by rfl)]
        go_simp
        refine (say_any c0 c1 c2 c3 c4 c5 c6 c7 c8 c9 c10 c11 c12 c13 c14 c15 c16 c17 c18 c19 c20 c21 c22 v7 v8 v5 v1 v2 v3 v0 v4 (wrap64 (s6 + 1)) t0 t1 t2 x y _).mono ?_
        rintro e w8 ⟨rfl, hg8⟩
        have hs8 : w7.heap.size ≤ w8.heap.size := by first | exact hg8.size | (have := hg8.size; simp at this; omega)
        have hA8 := Blk.other (Blk.alloc hA7 _) hg8 (by simp)
        have hV8 := Blk.other (Blk.alloc hV7 _) hg8 (by simp)
        have hT8 := Blk.other (Blk.alloc hT7 _) hg8 (by simp)
        have hZ8 := Blk.other (Blk.new w7 46 _) hg8 (by simp)
        go_wp2_with fail
        refine hK.out _ _ ⟨hA8, hV8, hT8⟩ (fun hHeld => ?_)
        clear hK K
        refine wpAnyH_ready (rs := [8]) (by kernel_rfl) (by simp) ?_
        refine AllReadyH.cons rfl (fun K hK => ?_) AllReadyH.nil
        rw [if_pos (by rfl)]
        refine wp_store_row 46 (.tmp 11) (.tmp 24) rfl w7.heap.size #[.int .i64 11, .int .i64 c2, .int .i64 t1, .int .i64 0, .int .u64 c0, .int .i64 x, .int .i64 y, .int .i64 c9, .int .i64 0, .int .u64 0, .int .i64 0, .int .i64 t0, .int .i64 v0, .int .i64 v1, .int .i64 v2, .int .i64 v3, .int .i64 v4, .int .u64 v5, .int .i64 (wrap64 (s6 + 1)), .int .i64 t2, .int .i64 0, .int .i64 0, .int .i64 0] rfl rfl 46 #[.int .i64 0, .int .i64 0, .int .i64 0, .int .i64 0, .int .u64 0, .int .i64 0, .int .i64 0, .int .i64 0, .int .i64 0, .int .u64 0, .int .i64 0, .int .i64 0, .int .i64 0, .int .i64 0, .int .i64 0, .int .i64 0, .int .i64 0, .int .u64 0, .int .i64 0, .int .i64 0, .int .i64 0, .int .i64 0, .int .i64 0] hZ8 (by kernel_rfl) rfl (by simp [Value.oneCell']) ?_
        have hM9 := Blk.setRow hZ8 #[.int .i64 11, .int .i64 c2, .int .i64 t1, .int .i64 0, .int .u64 c0, .int .i64 x, .int .i64 y, .int .i64 c9, .int .i64 0, .int .u64 0, .int .i64 0, .int .i64 t0, .int .i64 v0, .int .i64 v1, .int .i64 v2, .int .i64 v3, .int .i64 v4, .int .u64 v5, .int .i64 (wrap64 (s6 + 1)), .int .i64 t2, .int .i64 0, .int .i64 0, .int .i64 0]
        have hA9 := Blk.other hA8 (gb_row _ w7.heap.size #[.int .i64 11, .int .i64 c2, .int .i64 t1, .int .i64 0, .int .u64 c0, .int .i64 x, .int .i64 y, .int .i64 c9, .int .i64 0, .int .u64 0, .int .i64 0, .int .i64 t0, .int .i64 v0, .int .i64 v1, .int .i64 v2, .int .i64 v3, .int .i64 v4, .int .u64 v5, .int .i64 (wrap64 (s6 + 1)), .int .i64 t2, .int .i64 0, .int .i64 0, .int .i64 0]) (by simp; omega)
        have hV9 := Blk.other hV8 (gb_row _ w7.heap.size #[.int .i64 11, .int .i64 c2, .int .i64 t1, .int .i64 0, .int .u64 c0, .int .i64 x, .int .i64 y, .int .i64 c9, .int .i64 0, .int .u64 0, .int .i64 0, .int .i64 t0, .int .i64 v0, .int .i64 v1, .int .i64 v2, .int .i64 v3, .int .i64 v4, .int .u64 v5, .int .i64 (wrap64 (s6 + 1)), .int .i64 t2, .int .i64 0, .int .i64 0, .int .i64 0]) (by simp; omega)
        have hT9 := Blk.other hT8 (gb_row _ w7.heap.size #[.int .i64 11, .int .i64 c2, .int .i64 t1, .int .i64 0, .int .u64 c0, .int .i64 x, .int .i64 y, .int .i64 c9, .int .i64 0, .int .u64 0, .int .i64 0, .int .i64 t0, .int .i64 v0, .int .i64 v1, .int .i64 v2, .int .i64 v3, .int .i64 v4, .int .u64 v5, .int .i64 (wrap64 (s6 + 1)), .int .i64 t2, .int .i64 0, .int .i64 0, .int .i64 0]) (by simp; omega)
        have hg9 := gb_setRow (gb_trans (gb_alloc (gb_trans (gb_drew hg6) hg7) _) hg8) (b := w7.heap.size) (by omega) #[.int .i64 11, .int .i64 c2, .int .i64 t1, .int .i64 0, .int .u64 c0, .int .i64 x, .int .i64 y, .int .i64 c9, .int .i64 0, .int .u64 0, .int .i64 0, .int .i64 t0, .int .i64 v0, .int .i64 v1, .int .i64 v2, .int .i64 v3, .int .i64 v4, .int .u64 v5, .int .i64 (wrap64 (s6 + 1)), .int .i64 t2, .int .i64 0, .int .i64 0, .int .i64 0]
        refine hK.out _ _ ⟨hA9, hV9, hT9⟩ (fun hHeld => ?_)
        clear hK K
        refine wpAnyH_done (by kernel_rfl) ?_ _
        refine NoPanic.normal ?_
        go_wp2_with fail
        go_meet
        exact ⟨w7.heap.size, rfl, hM9, hA9, hV9, hT9, hg9⟩
    · rw [if_pos (by rfl)]
      go_simp
      refine hK.out _ _ ⟨Blk.drew (Blk.alloc hHA _), Blk.drew (Blk.alloc hHV _), Blk.drew (Blk.alloc hHT _)⟩ (fun hHeld => ?_)
      clear hK K
      refine wpAnyH_ready (rs := [3]) (by kernel_rfl) (by simp) ?_
      refine AllReadyH.cons rfl (fun K hK => ?_) AllReadyH.nil
      rw [if_pos (by rfl)]
      go_simp
      refine (follow_any v0 v1 v2 v3 v4 v5 s6 v7 v8 v9 v10 t0 t1 t2 _).mono ?_
      rintro e w7 ⟨rfl, hg7⟩
      have hs7 : w6.heap.size ≤ w7.heap.size := by first | exact hg7.size | (have := hg7.size; simp at this; omega)
      have hA7 := Blk.other (Blk.drew (Blk.alloc hHA _)) hg7 (by simp)
      have hV7 := Blk.other (Blk.drew (Blk.alloc hHV _)) hg7 (by simp)
      have hT7 := Blk.other (Blk.drew (Blk.alloc hHT _)) hg7 (by simp)
      have hZ7 := Blk.other (Blk.drew (Blk.new w6 46 _)) hg7 (by simp)
      go_wp2_with fail
      refine hK.out _ _ ⟨hA7, hV7, hT7⟩ (fun hHeld => ?_)
      clear hK K
      refine wpAnyH_ready (rs := [6]) (by kernel_rfl) (by simp) ?_
      refine AllReadyH.cons rfl (fun K hK => ?_) AllReadyH.nil
      rw [if_pos (by rfl)]
      go_simp
      refine (say_any c0 c1 c2 c3 c4 c5 c6 c7 c8 c9 c10 c11 c12 c13 c14 c15 c16 c17 c18 c19 c20 c21 c22 v7 v8 v5 v1 v2 v3 v0 v4 (wrap64 (s6 + 1)) t0 t1 t2 x y _).mono ?_
      rintro e w8 ⟨rfl, hg8⟩
      have hs8 : w7.heap.size ≤ w8.heap.size := by first | exact hg8.size | (have := hg8.size; simp at this; omega)
      have hA8 := Blk.other hA7 hg8 (by simp)
      have hV8 := Blk.other hV7 hg8 (by simp)
      have hT8 := Blk.other hT7 hg8 (by simp)
      have hZ8 := Blk.other hZ7 hg8 (by simp)
      go_wp2_with fail
      refine hK.out _ _ ⟨hA8, hV8, hT8⟩ (fun hHeld => ?_)
      clear hK K
      refine wpAnyH_ready (rs := [8]) (by kernel_rfl) (by simp) ?_
      refine AllReadyH.cons rfl (fun K hK => ?_) AllReadyH.nil
      rw [if_pos (by rfl)]
      refine wp_store_row 46 (.tmp 11) (.tmp 24) rfl w6.heap.size #[.int .i64 11, .int .i64 c2, .int .i64 t1, .int .i64 0, .int .u64 c0, .int .i64 x, .int .i64 y, .int .i64 c9, .int .i64 0, .int .u64 0, .int .i64 0, .int .i64 t0, .int .i64 v0, .int .i64 v1, .int .i64 v2, .int .i64 v3, .int .i64 v4, .int .u64 v5, .int .i64 (wrap64 (s6 + 1)), .int .i64 t2, .int .i64 0, .int .i64 0, .int .i64 0] rfl rfl 46 #[.int .i64 0, .int .i64 0, .int .i64 0, .int .i64 0, .int .u64 0, .int .i64 0, .int .i64 0, .int .i64 0, .int .i64 0, .int .u64 0, .int .i64 0, .int .i64 0, .int .i64 0, .int .i64 0, .int .i64 0, .int .i64 0, .int .i64 0, .int .u64 0, .int .i64 0, .int .i64 0, .int .i64 0, .int .i64 0, .int .i64 0] hZ8 (by kernel_rfl) rfl (by simp [Value.oneCell']) ?_
      have hM9 := Blk.setRow hZ8 #[.int .i64 11, .int .i64 c2, .int .i64 t1, .int .i64 0, .int .u64 c0, .int .i64 x, .int .i64 y, .int .i64 c9, .int .i64 0, .int .u64 0, .int .i64 0, .int .i64 t0, .int .i64 v0, .int .i64 v1, .int .i64 v2, .int .i64 v3, .int .i64 v4, .int .u64 v5, .int .i64 (wrap64 (s6 + 1)), .int .i64 t2, .int .i64 0, .int .i64 0, .int .i64 0]
      have hA9 := Blk.other hA8 (gb_row _ w6.heap.size #[.int .i64 11, .int .i64 c2, .int .i64 t1, .int .i64 0, .int .u64 c0, .int .i64 x, .int .i64 y, .int .i64 c9, .int .i64 0, .int .u64 0, .int .i64 0, .int .i64 t0, .int .i64 v0, .int .i64 v1, .int .i64 v2, .int .i64 v3, .int .i64 v4, .int .u64 v5, .int .i64 (wrap64 (s6 + 1)), .int .i64 t2, .int .i64 0, .int .i64 0, .int .i64 0]) (by simp; omega)
      have hV9 := Blk.other hV8 (gb_row _ w6.heap.size #[.int .i64 11, .int .i64 c2, .int .i64 t1, .int .i64 0, .int .u64 c0, .int .i64 x, .int .i64 y, .int .i64 c9, .int .i64 0, .int .u64 0, .int .i64 0, .int .i64 t0, .int .i64 v0, .int .i64 v1, .int .i64 v2, .int .i64 v3, .int .i64 v4, .int .u64 v5, .int .i64 (wrap64 (s6 + 1)), .int .i64 t2, .int .i64 0, .int .i64 0, .int .i64 0]) (by simp; omega)
      have hT9 := Blk.other hT8 (gb_row _ w6.heap.size #[.int .i64 11, .int .i64 c2, .int .i64 t1, .int .i64 0, .int .u64 c0, .int .i64 x, .int .i64 y, .int .i64 c9, .int .i64 0, .int .u64 0, .int .i64 0, .int .i64 t0, .int .i64 v0, .int .i64 v1, .int .i64 v2, .int .i64 v3, .int .i64 v4, .int .u64 v5, .int .i64 (wrap64 (s6 + 1)), .int .i64 t2, .int .i64 0, .int .i64 0, .int .i64 0]) (by simp; omega)
      have hg9 := gb_setRow (gb_trans (gb_trans (gb_drew (gb_alloc hg6 _)) hg7) hg8) (b := w6.heap.size) (by omega) #[.int .i64 11, .int .i64 c2, .int .i64 t1, .int .i64 0, .int .u64 c0, .int .i64 x, .int .i64 y, .int .i64 c9, .int .i64 0, .int .u64 0, .int .i64 0, .int .i64 t0, .int .i64 v0, .int .i64 v1, .int .i64 v2, .int .i64 v3, .int .i64 v4, .int .u64 v5, .int .i64 (wrap64 (s6 + 1)), .int .i64 t2, .int .i64 0, .int .i64 0, .int .i64 0]
      refine hK.out _ _ ⟨hA9, hV9, hT9⟩ (fun hHeld => ?_)
      clear hK K
      refine wpAnyH_done (by kernel_rfl) ?_ _
      refine NoPanic.normal ?_
      go_wp2_with fail
      go_meet
      exact ⟨w6.heap.size, rfl, hM9, hA9, hV9, hT9, hg9⟩
  case rest =>
    obtain ⟨bm, rfl, hM9, hA9, hV9, hT9, hg9⟩ := hcut
    clear hA6 hV6 hT6 hg6
    have a0 : wc.cell? ⟨w.heap.size, 0, none⟩ = some (.int .u64 c0) := Blk.cell hA9 0
    have m4 : wc.cell? ⟨bm, 4, none⟩ = some (.int .u64 c0) := Blk.cell hM9 4
    have m11 : wc.cell? ⟨bm, 11, none⟩ = some (.int .i64 t0) := Blk.cell hM9 11
    have m12 : wc.cell? ⟨bm, 12, none⟩ = some (.int .i64 v0) := Blk.cell hM9 12
    have m13 : wc.cell? ⟨bm, 13, none⟩ = some (.int .i64 v1) := Blk.cell hM9 13
    have m14 : wc.cell? ⟨bm, 14, none⟩ = some (.int .i64 v2) := Blk.cell hM9 14
    have m15 : wc.cell? ⟨bm, 15, none⟩ = some (.int .i64 v3) := Blk.cell hM9 15
    have m16 : wc.cell? ⟨bm, 16, none⟩ = some (.int .i64 v4) := Blk.cell hM9 16
    have m17 : wc.cell? ⟨bm, 17, none⟩ = some (.int .u64 v5) := Blk.cell hM9 17
    have m18 : wc.cell? ⟨bm, 18, none⟩ = some (.int .i64 (wrap64 (s6 + 1))) := Blk.cell hM9 18
    have m19 : wc.cell? ⟨bm, 19, none⟩ = some (.int .i64 t2) := Blk.cell hM9 19
    have cv0 : wc.cell? ⟨w.heap.size + 1, 0, none⟩ = some (.int .i64 v0) := Blk.cell hV9 0
    have cv1 : wc.cell? ⟨w.heap.size + 1, 1, none⟩ = some (.int .i64 v1) := Blk.cell hV9 1
    have cv2 : wc.cell? ⟨w.heap.size + 1, 2, none⟩ = some (.int .i64 v2) := Blk.cell hV9 2
    have cv3 : wc.cell? ⟨w.heap.size + 1, 3, none⟩ = some (.int .i64 v3) := Blk.cell hV9 3
    have cv4 : wc.cell? ⟨w.heap.size + 1, 4, none⟩ = some (.int .i64 v4) := Blk.cell hV9 4
    have cv5 : wc.cell? ⟨w.heap.size + 1, 5, none⟩ = some (.int .u64 v5) := Blk.cell hV9 5
    have cv6 : wc.cell? ⟨w.heap.size + 1, 6, none⟩ = some (.int .i64 s6) := Blk.cell hV9 6
    have ct0 : wc.cell? ⟨w.heap.size + 1 + 1, 0, none⟩ = some (.int .i64 t0) := Blk.cell hT9 0
    have ct2 : wc.cell? ⟨w.heap.size + 1 + 1, 2, none⟩ = some (.int .i64 t2) := Blk.cell hT9 2
    clear hM9 hV9 hT9
    go_upto_region 5 with (fail)
    clear a0 m4 m11 m12 m13 m14 m15 m16 m17 m18 m19 cv0 cv1 cv2 cv3 cv4 cv5 cv6 ct0 ct2
    obtain ⟨wb, rfl⟩ : ∃ wo : World, wo = wc := ⟨_, rfl⟩
    have hsA := Blk.lt hA9
    go_cut [12] (fun s12 wy => ∃ g, s12 = .pointer (some ⟨g, 0, none⟩) ∧ Blk wy g 46 #[.int .i64 11, .int .i64 c2, .int .i64 c20, .int .i64 0, .int .u64 c0, .int .i64 x, .int .i64 y, .int .i64 c9, .int .i64 0, .int .u64 0, .int .i64 0, .int .i64 c19, .int .i64 c3, .int .i64 c5, .int .i64 c6, .int .i64 c7, .int .i64 c4, .int .u64 c0, .int .i64 0, .int .i64 c21, .int .i64 0, .int .i64 0, .int .i64 0] ∧ Blk wy w.heap.size 36 #[.int .u64 c0, .int .i64 c1, .int .i64 c2, .int .i64 c3, .int .i64 c4, .int .i64 c5, .int .i64 c6, .int .i64 c7, .bool c8, .int .i64 c9, .int .i64 c10, .int .i64 c11, .int .i64 c12, .bool c13, .bool c14, .int .i64 c15, .int .i64 c16, .int .i64 c17, .int .i64 c18, .int .i64 c19, .int .i64 c20, .int .i64 c21, .bool c22] ∧ w.grownBy wy none)
    case first =>
      refine wp_region_noPanic ?_
      refine wp_region_held_drew (S := fun w' => Blk w' w.heap.size 36 #[.int .u64 c0, .int .i64 c1, .int .i64 c2, .int .i64 c3, .int .i64 c4, .int .i64 c5, .int .i64 c6, .int .i64 c7, .bool c8, .int .i64 c9, .int .i64 c10, .int .i64 c11, .int .i64 c12, .bool c13, .bool c14, .int .i64 c15, .int .i64 c16, .int .i64 c17, .int .i64 c18, .int .i64 c19, .int .i64 c20, .int .i64 c21, .bool c22]) (by kernel_rfl) (Blk.drew hA9) (fun hHeld => ?_)
      refine wpAnyH_take (i := 0) (v := .agg #[.int .u64 c0, .int .i64 c1, .int .i64 c2, .int .i64 c3, .int .i64 c4, .int .i64 c5, .int .i64 c6, .int .i64 c7, .bool c8, .int .i64 c9, .int .i64 c10, .int .i64 c11, .int .i64 c12, .bool c13, .bool c14, .int .i64 c15, .int .i64 c16, .int .i64 c17, .int .i64 c18, .int .i64 c19, .int .i64 c20, .int .i64 c21, .bool c22]) rfl (by kernel_rfl) (by kernel_rfl) (by kernel_rfl) (fun _ _ _ h => h) (yieldsIf_load_mid (by rfl) 36 (.tmp 5) rfl w.heap.size 0 rfl [.int .u64 c0, .int .i64 c1, .int .i64 c2, .int .i64 c3, .int .i64 c4, .int .i64 c5, .int .i64 c6, .int .i64 c7, .bool c8, .int .i64 c9, .int .i64 c10, .int .i64 c11, .int .i64 c12, .bool c13, .bool c14, .int .i64 c15, .int .i64 c16, .int .i64 c17, .int .i64 c18, .int .i64 c19, .int .i64 c20, .int .i64 c21, .bool c22] _ (fun _ h => Blk.range h) Try.underlying36 rfl Try.siz36) hHeld ?_
      refine wpAnyH_take (i := 1) (v := .agg #[.int .u64 c0, .int .i64 c1, .int .i64 c2, .int .i64 c3, .int .i64 c4, .int .i64 c5, .int .i64 c6, .int .i64 c7, .bool c8, .int .i64 c9, .int .i64 c10, .int .i64 c11, .int .i64 c12, .bool c13, .bool c14, .int .i64 c15, .int .i64 c16, .int .i64 c17, .int .i64 c18, .int .i64 c19, .int .i64 c20, .int .i64 c21, .bool c22]) rfl (by kernel_rfl) (by kernel_rfl) (by kernel_rfl) (fun _ _ _ h => h) (yieldsIf_load_mid (by rfl) 36 (.tmp 5) rfl w.heap.size 0 rfl [.int .u64 c0, .int .i64 c1, .int .i64 c2, .int .i64 c3, .int .i64 c4, .int .i64 c5, .int .i64 c6, .int .i64 c7, .bool c8, .int .i64 c9, .int .i64 c10, .int .i64 c11, .int .i64 c12, .bool c13, .bool c14, .int .i64 c15, .int .i64 c16, .int .i64 c17, .int .i64 c18, .int .i64 c19, .int .i64 c20, .int .i64 c21, .bool c22] _ (fun _ h => Blk.range h) Try.underlying36 rfl Try.siz36) hHeld ?_
      refine wpAnyH_take (i := 3) (v := .int .i64 x) rfl (by kernel_rfl) (by kernel_rfl) (by kernel_rfl) (fun _ _ _ h => h) (Or.inl ⟨by rfl, fun _ _ => by rfl⟩) hHeld ?_
      refine wpAnyH_take (i := 4) (v := .int .i64 y) rfl (by kernel_rfl) (by kernel_rfl) (by kernel_rfl) (fun _ _ _ h => h) (Or.inl ⟨by rfl, fun _ _ => by rfl⟩) hHeld ?_
      refine wpAnyH_ready (rs := [2, 6]) (by kernel_rfl) (by simp) ?_
      refine AllReadyH.cons rfl (fun K hK => ?_) (AllReadyH.cons rfl (fun K hK => ?_) AllReadyH.nil)
      · rw [if_pos (by rfl)]
        go_simp
        refine (own_any c0 c1 c2 c3 c4 c5 c6 c7 c8 c9 c10 c11 c12 c13 c14 c15 c16 c17 c18 c19 c20 c21 c22 _).mono ?_
        rintro e z7 ⟨rfl, hg7⟩
        have hs7 : wb.heap.size ≤ z7.heap.size := by first | exact hg7.size | (have := hg7.size; simp at this; omega)
        have hA7 := Blk.other (Blk.drew hA9) hg7 (by simp)
        go_wp2_with fail
        refine hK.out _ _ hA7 (fun hHeld => ?_)
        clear hK K
        refine wpAnyH_ready (rs := [5, 6]) (by kernel_rfl) (by simp) ?_
        refine AllReadyH.cons rfl (fun K hK => ?_) (AllReadyH.cons rfl (fun K hK => ?_) AllReadyH.nil)
        · rw [if_pos (by rfl)]
          go_simp
          refine (say_any c0 c1 c2 c3 c4 c5 c6 c7 c8 c9 c10 c11 c12 c13 c14 c15 c16 c17 c18 c19 c20 c21 c22 c0 0 c0 c5 c6 c7 c3 c4 0 c19 c20 c21 x y _).mono ?_
          rintro e z8 ⟨rfl, hg8⟩
          have hs8 : z7.heap.size ≤ z8.heap.size := by first | exact hg8.size | (have := hg8.size; simp at this; omega)
          have hA8 := Blk.other hA7 hg8 (by simp)
          go_wp2_with fail
          refine hK.out _ _ hA8 (fun hHeld => ?_)
          clear hK K
          refine wpAnyH_ready (rs := [6]) (by kernel_rfl) (by simp) ?_
          refine AllReadyH.cons rfl (fun K hK => ?_) AllReadyH.nil
          rw [if_pos (by rfl)]
          go_simp
          refine hK.out _ _ (Blk.alloc hA8 _) (fun hHeld => ?_)
          clear hK K
          refine wpAnyH_ready (rs := [7]) (by kernel_rfl) (by simp) ?_
          refine AllReadyH.cons rfl (fun K hK => ?_) AllReadyH.nil
          rw [if_pos (by rfl)]
          refine wp_store_row 46 (.tmp 12) (.tmp 86) rfl z8.heap.size #[.int .i64 11, .int .i64 c2, .int .i64 c20, .int .i64 0, .int .u64 c0, .int .i64 x, .int .i64 y, .int .i64 c9, .int .i64 0, .int .u64 0, .int .i64 0, .int .i64 c19, .int .i64 c3, .int .i64 c5, .int .i64 c6, .int .i64 c7, .int .i64 c4, .int .u64 c0, .int .i64 0, .int .i64 c21, .int .i64 0, .int .i64 0, .int .i64 0] rfl rfl 46 #[.int .i64 0, .int .i64 0, .int .i64 0, .int .i64 0, .int .u64 0, .int .i64 0, .int .i64 0, .int .i64 0, .int .i64 0, .int .u64 0, .int .i64 0, .int .i64 0, .int .i64 0, .int .i64 0, .int .i64 0, .int .i64 0, .int .i64 0, .int .u64 0, .int .i64 0, .int .i64 0, .int .i64 0, .int .i64 0, .int .i64 0] (Blk.new z8 46 #[.int .i64 0, .int .i64 0, .int .i64 0, .int .i64 0, .int .u64 0, .int .i64 0, .int .i64 0, .int .i64 0, .int .i64 0, .int .u64 0, .int .i64 0, .int .i64 0, .int .i64 0, .int .i64 0, .int .i64 0, .int .i64 0, .int .i64 0, .int .u64 0, .int .i64 0, .int .i64 0, .int .i64 0, .int .i64 0, .int .i64 0]) (by kernel_rfl) rfl (by simp [Value.oneCell']) ?_
          have hM9 := Blk.setRow (Blk.new z8 46 #[.int .i64 0, .int .i64 0, .int .i64 0, .int .i64 0, .int .u64 0, .int .i64 0, .int .i64 0, .int .i64 0, .int .i64 0, .int .u64 0, .int .i64 0, .int .i64 0, .int .i64 0, .int .i64 0, .int .i64 0, .int .i64 0, .int .i64 0, .int .u64 0, .int .i64 0, .int .i64 0, .int .i64 0, .int .i64 0, .int .i64 0]) #[.int .i64 11, .int .i64 c2, .int .i64 c20, .int .i64 0, .int .u64 c0, .int .i64 x, .int .i64 y, .int .i64 c9, .int .i64 0, .int .u64 0, .int .i64 0, .int .i64 c19, .int .i64 c3, .int .i64 c5, .int .i64 c6, .int .i64 c7, .int .i64 c4, .int .u64 c0, .int .i64 0, .int .i64 c21, .int .i64 0, .int .i64 0, .int .i64 0]
          have hA9 := Blk.other (Blk.alloc hA8 (.cells #[.int .i64 0, .int .i64 0, .int .i64 0, .int .i64 0, .int .u64 0, .int .i64 0, .int .i64 0, .int .i64 0, .int .i64 0, .int .u64 0, .int .i64 0, .int .i64 0, .int .i64 0, .int .i64 0, .int .i64 0, .int .i64 0, .int .i64 0, .int .u64 0, .int .i64 0, .int .i64 0, .int .i64 0, .int .i64 0, .int .i64 0] 46)) (gb_row _ z8.heap.size #[.int .i64 11, .int .i64 c2, .int .i64 c20, .int .i64 0, .int .u64 c0, .int .i64 x, .int .i64 y, .int .i64 c9, .int .i64 0, .int .u64 0, .int .i64 0, .int .i64 c19, .int .i64 c3, .int .i64 c5, .int .i64 c6, .int .i64 c7, .int .i64 c4, .int .u64 c0, .int .i64 0, .int .i64 c21, .int .i64 0, .int .i64 0, .int .i64 0]) (by simp; omega)
          have hg9 := gb_setRow (gb_alloc (gb_trans (gb_trans (gb_drew hg9) hg7) hg8) (.cells #[.int .i64 0, .int .i64 0, .int .i64 0, .int .i64 0, .int .u64 0, .int .i64 0, .int .i64 0, .int .i64 0, .int .i64 0, .int .u64 0, .int .i64 0, .int .i64 0, .int .i64 0, .int .i64 0, .int .i64 0, .int .i64 0, .int .i64 0, .int .u64 0, .int .i64 0, .int .i64 0, .int .i64 0, .int .i64 0, .int .i64 0] 46)) (b := z8.heap.size) (by omega) #[.int .i64 11, .int .i64 c2, .int .i64 c20, .int .i64 0, .int .u64 c0, .int .i64 x, .int .i64 y, .int .i64 c9, .int .i64 0, .int .u64 0, .int .i64 0, .int .i64 c19, .int .i64 c3, .int .i64 c5, .int .i64 c6, .int .i64 c7, .int .i64 c4, .int .u64 c0, .int .i64 0, .int .i64 c21, .int .i64 0, .int .i64 0, .int .i64 0]
          refine hK.out _ _ hA9 (fun hHeld => ?_)
          clear hK K
          refine wpAnyH_done (by kernel_rfl) ?_ _
          refine NoPanic.normal ?_
          go_wp2_with fail
          go_meet
          exact ⟨z8.heap.size, rfl, hM9, hA9, hg9⟩
        · rw [if_pos (by rfl)]
          go_simp
          refine hK.out _ _ (Blk.alloc hA7 _) (fun hHeld => ?_)
          clear hK K
          refine wpAnyH_ready (rs := [5]) (by kernel_rfl) (by simp) ?_
          refine AllReadyH.cons rfl (fun K hK => ?_) AllReadyH.nil
          rw [if_pos (by rfl)]
          go_simp
          refine (say_any c0 c1 c2 c3 c4 c5 c6 c7 c8 c9 c10 c11 c12 c13 c14 c15 c16 c17 c18 c19 c20 c21 c22 c0 0 c0 c5 c6 c7 c3 c4 0 c19 c20 c21 x y _).mono ?_
          rintro e z8 ⟨rfl, hg8⟩
          have hs8 : z7.heap.size ≤ z8.heap.size := by first | exact hg8.size | (have := hg8.size; simp at this; omega)
          have hA8 := Blk.other (Blk.alloc hA7 _) hg8 (by simp)
          have hZ8 := Blk.other (Blk.new z7 46 _) hg8 (by simp)
          go_wp2_with fail
          refine hK.out _ _ hA8 (fun hHeld => ?_)
          clear hK K
          refine wpAnyH_ready (rs := [7]) (by kernel_rfl) (by simp) ?_
          refine AllReadyH.cons rfl (fun K hK => ?_) AllReadyH.nil
          rw [if_pos (by rfl)]
          refine wp_store_row 46 (.tmp 12) (.tmp 86) rfl z7.heap.size #[.int .i64 11, .int .i64 c2, .int .i64 c20, .int .i64 0, .int .u64 c0, .int .i64 x, .int .i64 y, .int .i64 c9, .int .i64 0, .int .u64 0, .int .i64 0, .int .i64 c19, .int .i64 c3, .int .i64 c5, .int .i64 c6, .int .i64 c7, .int .i64 c4, .int .u64 c0, .int .i64 0, .int .i64 c21, .int .i64 0, .int .i64 0, .int .i64 0] rfl rfl 46 #[.int .i64 0, .int .i64 0, .int .i64 0, .int .i64 0, .int .u64 0, .int .i64 0, .int .i64 0, .int .i64 0, .int .i64 0, .int .u64 0, .int .i64 0, .int .i64 0, .int .i64 0, .int .i64 0, .int .i64 0, .int .i64 0, .int .i64 0, .int .u64 0, .int .i64 0, .int .i64 0, .int .i64 0, .int .i64 0, .int .i64 0] hZ8 (by kernel_rfl) rfl (by simp [Value.oneCell']) ?_
          have hM9 := Blk.setRow hZ8 #[.int .i64 11, .int .i64 c2, .int .i64 c20, .int .i64 0, .int .u64 c0, .int .i64 x, .int .i64 y, .int .i64 c9, .int .i64 0, .int .u64 0, .int .i64 0, .int .i64 c19, .int .i64 c3, .int .i64 c5, .int .i64 c6, .int .i64 c7, .int .i64 c4, .int .u64 c0, .int .i64 0, .int .i64 c21, .int .i64 0, .int .i64 0, .int .i64 0]
          have hA9 := Blk.other hA8 (gb_row _ z7.heap.size #[.int .i64 11, .int .i64 c2, .int .i64 c20, .int .i64 0, .int .u64 c0, .int .i64 x, .int .i64 y, .int .i64 c9, .int .i64 0, .int .u64 0, .int .i64 0, .int .i64 c19, .int .i64 c3, .int .i64 c5, .int .i64 c6, .int .i64 c7, .int .i64 c4, .int .u64 c0, .int .i64 0, .int .i64 c21, .int .i64 0, .int .i64 0, .int .i64 0]) (by simp; omega)
          have hg9 := gb_setRow (gb_trans (gb_alloc (gb_trans (gb_drew hg9) hg7) _) hg8) (b := z7.heap.size) (by omega) #[.int .i64 11, .int .i64 c2, .int .i64 c20, .int .i64 0, .int .u64 c0, .int .i64 x, .int .i64 y, .int .i64 c9, .int .i64 0, .int .u64 0, .int .i64 0, .int .i64 c19, .int .i64 c3, .int .i64 c5, .int .i64 c6, .int .i64 c7, .int .i64 c4, .int .u64 c0, .int .i64 0, .int .i64 c21, .int .i64 0, .int .i64 0, .int .i64 0]
          refine hK.out _ _ hA9 (fun hHeld => ?_)
          clear hK K
          refine wpAnyH_done (by kernel_rfl) ?_ _
          refine NoPanic.normal ?_
          go_wp2_with fail
          go_meet
          exact ⟨z7.heap.size, rfl, hM9, hA9, hg9⟩
      · rw [if_pos (by rfl)]
        go_simp
        refine hK.out _ _ (Blk.drew (Blk.alloc hA9 _)) (fun hHeld => ?_)
        clear hK K
        refine wpAnyH_ready (rs := [2]) (by kernel_rfl) (by simp) ?_
        refine AllReadyH.cons rfl (fun K hK => ?_) AllReadyH.nil
        rw [if_pos (by rfl)]
        go_simp
        refine (own_any c0 c1 c2 c3 c4 c5 c6 c7 c8 c9 c10 c11 c12 c13 c14 c15 c16 c17 c18 c19 c20 c21 c22 _).mono ?_
        rintro e z7 ⟨rfl, hg7⟩
        have hs7 : wb.heap.size ≤ z7.heap.size := by first | exact hg7.size | (have := hg7.size; simp at this; omega)
        have hA7 := Blk.other (Blk.drew (Blk.alloc hA9 _)) hg7 (by simp)
        have hZ7 := Blk.other (Blk.drew (Blk.new wb 46 _)) hg7 (by simp)
        go_wp2_with fail
        refine hK.out _ _ hA7 (fun hHeld => ?_)
        clear hK K
        refine wpAnyH_ready (rs := [5]) (by kernel_rfl) (by simp) ?_
        refine AllReadyH.cons rfl (fun K hK => ?_) AllReadyH.nil
        rw [if_pos (by rfl)]
        go_simp
        refine (say_any c0 c1 c2 c3 c4 c5 c6 c7 c8 c9 c10 c11 c12 c13 c14 c15 c16 c17 c18 c19 c20 c21 c22 c0 0 c0 c5 c6 c7 c3 c4 0 c19 c20 c21 x y _).mono ?_
        rintro e z8 ⟨rfl, hg8⟩
        have hs8 : z7.heap.size ≤ z8.heap.size := by first | exact hg8.size | (have := hg8.size; simp at this; omega)
        have hA8 := Blk.other hA7 hg8 (by simp)
        have hZ8 := Blk.other hZ7 hg8 (by simp)
        go_wp2_with fail
        refine hK.out _ _ hA8 (fun hHeld => ?_)
        clear hK K
        refine wpAnyH_ready (rs := [7]) (by kernel_rfl) (by simp) ?_
        refine AllReadyH.cons rfl (fun K hK => ?_) AllReadyH.nil
        rw [if_pos (by rfl)]
        refine wp_store_row 46 (.tmp 12) (.tmp 86) rfl wb.heap.size #[.int .i64 11, .int .i64 c2, .int .i64 c20, .int .i64 0, .int .u64 c0, .int .i64 x, .int .i64 y, .int .i64 c9, .int .i64 0, .int .u64 0, .int .i64 0, .int .i64 c19, .int .i64 c3, .int .i64 c5, .int .i64 c6, .int .i64 c7, .int .i64 c4, .int .u64 c0, .int .i64 0, .int .i64 c21, .int .i64 0, .int .i64 0, .int .i64 0] rfl rfl 46 #[.int .i64 0, .int .i64 0, .int .i64 0, .int .i64 0, .int .u64 0, .int .i64 0, .int .i64 0, .int .i64 0, .int .i64 0, .int .u64 0, .int .i64 0, .int .i64 0, .int .i64 0, .int .i64 0, .int .i64 0, .int .i64 0, .int .i64 0, .int .u64 0, .int .i64 0, .int .i64 0, .int .i64 0, .int .i64 0, .int .i64 0] hZ8 (by kernel_rfl) rfl (by simp [Value.oneCell']) ?_
        have hM9 := Blk.setRow hZ8 #[.int .i64 11, .int .i64 c2, .int .i64 c20, .int .i64 0, .int .u64 c0, .int .i64 x, .int .i64 y, .int .i64 c9, .int .i64 0, .int .u64 0, .int .i64 0, .int .i64 c19, .int .i64 c3, .int .i64 c5, .int .i64 c6, .int .i64 c7, .int .i64 c4, .int .u64 c0, .int .i64 0, .int .i64 c21, .int .i64 0, .int .i64 0, .int .i64 0]
        have hA9 := Blk.other hA8 (gb_row _ wb.heap.size #[.int .i64 11, .int .i64 c2, .int .i64 c20, .int .i64 0, .int .u64 c0, .int .i64 x, .int .i64 y, .int .i64 c9, .int .i64 0, .int .u64 0, .int .i64 0, .int .i64 c19, .int .i64 c3, .int .i64 c5, .int .i64 c6, .int .i64 c7, .int .i64 c4, .int .u64 c0, .int .i64 0, .int .i64 c21, .int .i64 0, .int .i64 0, .int .i64 0]) (by simp; omega)
        have hg9 := gb_setRow (gb_trans (gb_trans (gb_drew (gb_alloc hg9 _)) hg7) hg8) (b := wb.heap.size) (by omega) #[.int .i64 11, .int .i64 c2, .int .i64 c20, .int .i64 0, .int .u64 c0, .int .i64 x, .int .i64 y, .int .i64 c9, .int .i64 0, .int .u64 0, .int .i64 0, .int .i64 c19, .int .i64 c3, .int .i64 c5, .int .i64 c6, .int .i64 c7, .int .i64 c4, .int .u64 c0, .int .i64 0, .int .i64 c21, .int .i64 0, .int .i64 0, .int .i64 0]
        refine hK.out _ _ hA9 (fun hHeld => ?_)
        clear hK K
        refine wpAnyH_done (by kernel_rfl) ?_ _
        refine NoPanic.normal ?_
        go_wp2_with fail
        go_meet
        exact ⟨wb.heap.size, rfl, hM9, hA9, hg9⟩
    case rest =>
      obtain ⟨bn, rfl, hM10, hA10, hg10⟩ := hcut
      clear hA9 hg9 hsA
      go_wp2_with (((with_reducible refine gate_op (.load 36 (.tmp 5)) rfl ?_); go_must (refine wpList_load_mid rfl 36 (.tmp 5) rfl w.heap.size 0 rfl [.int .u64 c0, .int .i64 c1, .int .i64 c2, .int .i64 c3, .int .i64 c4, .int .i64 c5, .int .i64 c6, .int .i64 c7, .bool c8, .int .i64 c9, .int .i64 c10, .int .i64 c11, .int .i64 c12, .bool c13, .bool c14, .int .i64 c15, .int .i64 c16, .int .i64 c17, .int .i64 c18, .int .i64 c19, .int .i64 c20, .int .i64 c21, .bool c22] _ (Blk.range hA10) Try.underlying36 rfl Try.siz36 ?_)))
      refine (own11_any c0 c1 c2 c3 c4 c5 c6 c7 c8 c9 c10 c11 c12 c13 c14 c15 c16 c17 c18 c19 c20 c21 c22 _).mono ?_
      rintro e y7 ⟨rfl, hg11⟩
      have hM11 := Blk.other hM10 hg11 (by simp)
      replace hg11 := gb_trans hg10 hg11
      clear hM10 hA10 hg10
      go_upto_region 7 with (fail)
      have hM12 := Blk.alloc hM11 (.cells #[.int .i64 c3, .int .i64 c5, .int .i64 c6, .int .i64 c7, .int .i64 c4, .int .u64 c0, .int .i64 0, .int .u64 c0, .int .i64 0, .int .u64 c0, .int .i64 0] 40)
      have hO12 : Blk (y7.alloc (.cells #[.int .i64 c3, .int .i64 c5, .int .i64 c6, .int .i64 c7, .int .i64 c4, .int .u64 c0, .int .i64 0, .int .u64 c0, .int .i64 0, .int .u64 c0, .int .i64 0] 40)) y7.heap.size 40 #[.int .i64 c3, .int .i64 c5, .int .i64 c6, .int .i64 c7, .int .i64 c4, .int .u64 c0, .int .i64 0, .int .u64 c0, .int .i64 0, .int .u64 c0, .int .i64 0] := Blk.new _ _ _
      have hg12 := gb_alloc hg11 (.cells #[.int .i64 c3, .int .i64 c5, .int .i64 c6, .int .i64 c7, .int .i64 c4, .int .u64 c0, .int .i64 0, .int .u64 c0, .int .i64 0, .int .u64 c0, .int .i64 0] 40)
      clear hM11 hg11
      generalize y7.alloc (.cells #[.int .i64 c3, .int .i64 c5, .int .i64 c6, .int .i64 c7, .int .i64 c4, .int .u64 c0, .int .i64 0, .int .u64 c0, .int .i64 0, .int .u64 c0, .int .i64 0] 40) = y8 at *
      generalize y7.heap.size = bo at *
      have m5 : y8.cell? ⟨bn, 5, none⟩ = some (.int .i64 x) := Blk.cell hM12 5
      have m6 : y8.cell? ⟨bn, 6, none⟩ = some (.int .i64 y) := Blk.cell hM12 6
      have m12 : y8.cell? ⟨bn, 12, none⟩ = some (.int .i64 c3) := Blk.cell hM12 12
      have m13 : y8.cell? ⟨bn, 13, none⟩ = some (.int .i64 c5) := Blk.cell hM12 13
      have m14 : y8.cell? ⟨bn, 14, none⟩ = some (.int .i64 c6) := Blk.cell hM12 14
      have m15 : y8.cell? ⟨bn, 15, none⟩ = some (.int .i64 c7) := Blk.cell hM12 15
      have m17 : y8.cell? ⟨bn, 17, none⟩ = some (.int .u64 c0) := Blk.cell hM12 17
      have m18 : y8.cell? ⟨bn, 18, none⟩ = some (.int .i64 0) := Blk.cell hM12 18
      have o0 : y8.cell? ⟨bo, 0, none⟩ = some (.int .i64 c3) := Blk.cell hO12 0
      have o1 : y8.cell? ⟨bo, 1, none⟩ = some (.int .i64 c5) := Blk.cell hO12 1
      have o2 : y8.cell? ⟨bo, 2, none⟩ = some (.int .i64 c6) := Blk.cell hO12 2
      have o3 : y8.cell? ⟨bo, 3, none⟩ = some (.int .i64 c7) := Blk.cell hO12 3
      have o5 : y8.cell? ⟨bo, 5, none⟩ = some (.int .u64 c0) := Blk.cell hO12 5
      clear hM12 hO12
      go_wp2_with fail
      refine (awake_any _).mono ?_
      rintro e y9 ⟨rfl, hg13⟩
      go_wp2_with fail
      go_ret
      exact ⟨rfl, below_of_gb (gb_trans hg12 hg13)⟩
end Go.Proofs.Ytabibaamlhchbaa
