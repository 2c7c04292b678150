/- The walk of UpdateAll. -/
import Derived.Test.YtabibaamlhchbaaRSay
namespace Go.Proofs.Ytabibaamlhchbaa
open Go.RowKit
attribute [local go_sem] max_two min_two max2_max min2_min
attribute [local go_sem ↓] Go.wp_at_zero Go.wp_at_succ

theorem with4 {w : World} {A B C D : Array Value} {ta tb tc td : TypeId} {motive : World → Prop}
    (h : ∀ w4, Blk w4 w.heap.size ta A → Blk w4 (w.heap.size + 1) tb B → Blk w4 (w.heap.size + 1 + 1) tc C → Blk w4 (w.heap.size + 1 + 1 + 1) td D → w.grownBy w4 none → motive w4) :
    motive ((((w.alloc (.cells A ta)).alloc (.cells B tb)).alloc (.cells C tc)).alloc (.cells D td)) := by
  have s1 : (w.alloc (.cells A ta)).heap.size = w.heap.size + 1 := by simp
  have s2 : ((w.alloc (.cells A ta)).alloc (.cells B tb)).heap.size = w.heap.size + 1 + 1 := by simp
  have s3 : (((w.alloc (.cells A ta)).alloc (.cells B tb)).alloc (.cells C tc)).heap.size = w.heap.size + 1 + 1 + 1 := by simp
  refine h _ (Blk.alloc (Blk.alloc (Blk.alloc (Blk.new w ta A) _) _) _) ?_ ?_ ?_ (gb_alloc (gb_alloc (gb_alloc (gb_alloc (gb_refl _ _) _) _) _) _)
  · have := Blk.alloc (Blk.alloc (Blk.new (w.alloc (.cells A ta)) tb B) (.cells C tc)) (.cells D td)
    rwa [s1] at this
  · have := Blk.alloc (Blk.new ((w.alloc (.cells A ta)).alloc (.cells B tb)) tc C) (.cells D td)
    rwa [s2] at this
  · have := Blk.new (((w.alloc (.cells A ta)).alloc (.cells B tb)).alloc (.cells C tc)) td D
    rwa [s3] at this
theorem chainN {c : Prop} [Decidable c] {b : Bool} {w : World} : (if c then Result.ok (Next.value (Value.bool b)) w else Result.ok (Next.value (Value.bool false)) w) = .ok (Next.value (.bool (decide c && b))) w := by
  by_cases h : c <;> simp [h]
theorem Try.siz34' : (Try.prog.info? 34).map (·.size) = some 3 := by kernel_rfl

set_option maxHeartbeats 3000000 in
set_option maxRecDepth 100000 in
theorem updateAll_walk (c0 : Int) (c1 : Int) (c2 : Int) (c3 : Int) (c4 : Int) (c5 : Int) (c6 : Int) (c7 : Int) (c8 : Bool) (c9 : Int) (c10 : Int) (c11 : Int) (c12 : Int) (c13 : Bool) (c14 : Bool) (c15 : Int) (c16 : Int) (c17 : Int) (c18 : Int) (c19 : Int) (c20 : Int) (c21 : Int) (c22 : Bool) (v0 : Int) (v1 : Int) (v2 : Int) (v3 : Int) (v4 : Int) (v5 : Int) (v6 : Int) (v7 : Int) (v8 : Int) (v9 : Int) (v10 : Int) (t0 : Int) (t1 : Int) (t2 : Int) (p0 : Int) (p1 : Int) (p2 : Int) (p3 : Int) (p4 : Int) (p5 : Int) (p6 : Int) (p7 : Int) (p8 : Int) (p9 : Int) (p10 : Int) (p11 : Int) (x y : Int) (w : World) :
    Calls Try.prog 4 #[.agg #[.int .u64 c0, .int .i64 c1, .int .i64 c2, .int .i64 c3, .int .i64 c4, .int .i64 c5, .int .i64 c6, .int .i64 c7, .bool c8, .int .i64 c9, .int .i64 c10, .int .i64 c11, .int .i64 c12, .bool c13, .bool c14, .int .i64 c15, .int .i64 c16, .int .i64 c17, .int .i64 c18, .int .i64 c19, .int .i64 c20, .int .i64 c21, .bool c22], .agg #[.int .i64 v0, .int .i64 v1, .int .i64 v2, .int .i64 v3, .int .i64 v4, .int .u64 v5, .int .i64 v6, .int .u64 v7, .int .i64 v8, .int .u64 v9, .int .i64 v10], .agg #[.int .i64 t0, .int .i64 t1, .int .i64 t2], .agg #[.int .u64 p0, .int .i64 p1, .int .u64 p2, .int .i64 p3, .int .i64 p4, .int .i64 p5, .int .i64 p6, .int .i64 p7, .int .i64 p8, .int .i64 p9, .int .i64 p10, .int .i64 p11], .int .i64 x, .int .i64 y] w fun e w' => e = .returned (.bool true) ∧ Below w.heap.size w w' := by
  go_enter Try.func4, Try.ntmps4
  go_upto_region 1 with (fail)
  refine with4 (motive := fun w' => Code.wp Try.prog _ _ _ w') ?_
  intro w4 hA hV hT hP hg
  replace hg := gb_drew hg
  refine wp_region_noPanic ?_
  refine wp_region_held_drew (S := fun w' => Blk w' w.heap.size 36 #[.int .u64 c0, .int .i64 c1, .int .i64 c2, .int .i64 c3, .int .i64 c4, .int .i64 c5, .int .i64 c6, .int .i64 c7, .bool c8, .int .i64 c9, .int .i64 c10, .int .i64 c11, .int .i64 c12, .bool c13, .bool c14, .int .i64 c15, .int .i64 c16, .int .i64 c17, .int .i64 c18, .int .i64 c19, .int .i64 c20, .int .i64 c21, .bool c22] ∧ Blk w' (w.heap.size + 1) 40 #[.int .i64 v0, .int .i64 v1, .int .i64 v2, .int .i64 v3, .int .i64 v4, .int .u64 v5, .int .i64 v6, .int .u64 v7, .int .i64 v8, .int .u64 v9, .int .i64 v10] ∧ Blk w' (w.heap.size + 1 + 1) 34 #[.int .i64 t0, .int .i64 t1, .int .i64 t2] ∧ Blk w' (w.heap.size + 1 + 1 + 1) 42 #[.int .u64 p0, .int .i64 p1, .int .u64 p2, .int .i64 p3, .int .i64 p4, .int .i64 p5, .int .i64 p6, .int .i64 p7, .int .i64 p8, .int .i64 p9, .int .i64 p10, .int .i64 p11]) (by kernel_rfl) ⟨Blk.drew hA, Blk.drew hV, Blk.drew hT, Blk.drew hP⟩ (fun hHeld => ?_)
  clear hA hV hT hP
  refine wpAnyH_take (i := 0) (v := .agg #[.int .u64 c0, .int .i64 c1, .int .i64 c2, .int .i64 c3, .int .i64 c4, .int .i64 c5, .int .i64 c6, .int .i64 c7, .bool c8, .int .i64 c9, .int .i64 c10, .int .i64 c11, .int .i64 c12, .bool c13, .bool c14, .int .i64 c15, .int .i64 c16, .int .i64 c17, .int .i64 c18, .int .i64 c19, .int .i64 c20, .int .i64 c21, .bool c22]) rfl (by kernel_rfl) (by kernel_rfl) (by kernel_rfl) (fun _ _ _ h => h) (yieldsIf_load_mid (by rfl) 36 (.tmp 6) rfl w.heap.size 0 rfl [.int .u64 c0, .int .i64 c1, .int .i64 c2, .int .i64 c3, .int .i64 c4, .int .i64 c5, .int .i64 c6, .int .i64 c7, .bool c8, .int .i64 c9, .int .i64 c10, .int .i64 c11, .int .i64 c12, .bool c13, .bool c14, .int .i64 c15, .int .i64 c16, .int .i64 c17, .int .i64 c18, .int .i64 c19, .int .i64 c20, .int .i64 c21, .bool c22] _ (fun _ h => Blk.range h.1) Try.underlying36 rfl Try.siz36) hHeld ?_
  refine wpAnyH_take (i := 2) (v := .agg #[.int .u64 c0, .int .i64 c1, .int .i64 c2, .int .i64 c3, .int .i64 c4, .int .i64 c5, .int .i64 c6, .int .i64 c7, .bool c8, .int .i64 c9, .int .i64 c10, .int .i64 c11, .int .i64 c12, .bool c13, .bool c14, .int .i64 c15, .int .i64 c16, .int .i64 c17, .int .i64 c18, .int .i64 c19, .int .i64 c20, .int .i64 c21, .bool c22]) rfl (by kernel_rfl) (by kernel_rfl) (by kernel_rfl) (fun _ _ _ h => h) (yieldsIf_load_mid (by rfl) 36 (.tmp 6) rfl w.heap.size 0 rfl [.int .u64 c0, .int .i64 c1, .int .i64 c2, .int .i64 c3, .int .i64 c4, .int .i64 c5, .int .i64 c6, .int .i64 c7, .bool c8, .int .i64 c9, .int .i64 c10, .int .i64 c11, .int .i64 c12, .bool c13, .bool c14, .int .i64 c15, .int .i64 c16, .int .i64 c17, .int .i64 c18, .int .i64 c19, .int .i64 c20, .int .i64 c21, .bool c22] _ (fun _ h => Blk.range h.1) Try.underlying36 rfl Try.siz36) hHeld ?_
  refine wpAnyH_ready (rs := [1]) (by kernel_rfl) (by simp) ?_
  refine AllReadyH.cons rfl (fun K hK => ?_) AllReadyH.nil
  rw [if_pos (by rfl)]
  go_simp
  refine (own_any c0 c1 c2 c3 c4 c5 c6 c7 c8 c9 c10 c11 c12 c13 c14 c15 c16 c17 c18 c19 c20 c21 c22 _).mono ?_
  rintro e u1 ⟨rfl, hq⟩
  have hA1 := Blk.other hHeld.1 hq (by simp)
  have hV1 := Blk.other hHeld.2.1 hq (by simp)
  have hT1 := Blk.other hHeld.2.2.1 hq (by simp)
  have hP1 := Blk.other hHeld.2.2.2 hq (by simp)
  replace hg := gb_trans hg hq
  clear hq hHeld
  go_wp2_with fail
  refine hK.out _ _ ⟨hA1, hV1, hT1, hP1⟩ (fun hHeld => ?_)
  clear hK K hA1 hV1 hT1 hP1
  refine wpAnyH_ready (rs := [3]) (by kernel_rfl) (by simp) ?_
  refine AllReadyH.cons rfl (fun K hK => ?_) AllReadyH.nil
  rw [if_pos (by rfl)]
  go_simp
  refine (rown_any c0 c1 c2 c3 c4 c5 c6 c7 c8 c9 c10 c11 c12 c13 c14 c15 c16 c17 c18 c19 c20 c21 c22 _).mono ?_
  rintro e u2 ⟨rfl, hq⟩
  have hA2 := Blk.other hHeld.1 hq (by simp)
  have hV2 := Blk.other hHeld.2.1 hq (by simp)
  have hT2 := Blk.other hHeld.2.2.1 hq (by simp)
  have hP2 := Blk.other hHeld.2.2.2 hq (by simp)
  replace hg := gb_trans hg hq
  clear hq hHeld
  go_wp2_with fail
  refine hK.out _ _ ⟨hA2, hV2, hT2, hP2⟩ (fun hHeld => ?_)
  clear hK K hA2 hV2 hT2 hP2
  refine wpAnyH_take (i := 4) (v := .bool true) rfl (by kernel_rfl) (by kernel_rfl) (by kernel_rfl) (fun _ _ _ h => h) (Or.inl ⟨by rfl, fun w' _ => by go_simp⟩) hHeld ?_
  refine wpAnyH_take (i := 5) (v := .bool true) rfl (by kernel_rfl) (by kernel_rfl) (by kernel_rfl) (fun _ _ _ h => h) (Or.inl ⟨by rfl, fun w' _ => by rfl⟩) hHeld ?_
  go_simp
  refine wpAnyH_take (i := 6) (v := .agg #[.int .i64 v0, .int .i64 v1, .int .i64 v2, .int .i64 v3, .int .i64 v4, .int .u64 v5, .int .i64 v6, .int .u64 v7, .int .i64 v8, .int .u64 v9, .int .i64 v10]) rfl (by kernel_rfl) (by kernel_rfl) (by kernel_rfl) (fun _ _ _ h => h) (yieldsIf_load_mid (by rfl) 40 (.tmp 7) rfl (w.heap.size + 1) 0 rfl [.int .i64 v0, .int .i64 v1, .int .i64 v2, .int .i64 v3, .int .i64 v4, .int .u64 v5, .int .i64 v6, .int .u64 v7, .int .i64 v8, .int .u64 v9, .int .i64 v10] _ (fun _ h => Blk.range h.2.1) Try.underlying40 rfl Try.siz40) hHeld ?_
  refine wpAnyH_take (i := 7) (v := .agg #[.int .i64 t0, .int .i64 t1, .int .i64 t2]) rfl (by kernel_rfl) (by kernel_rfl) (by kernel_rfl) (fun _ _ _ h => h) (yieldsIf_load_mid (by rfl) 34 (.tmp 8) rfl (w.heap.size + 1 + 1) 0 rfl [.int .i64 t0, .int .i64 t1, .int .i64 t2] _ (fun _ h => Blk.range h.2.2.1) Try.underlying34 rfl Try.siz34') hHeld ?_
  go_simp
  refine wpAnyH_take (i := 9) (v := .agg #[.int .i64 v0, .int .i64 v1, .int .i64 v2, .int .i64 v3, .int .i64 v4, .int .u64 v5, .int .i64 v6, .int .u64 v7, .int .i64 v8, .int .u64 v9, .int .i64 v10]) rfl (by kernel_rfl) (by kernel_rfl) (by kernel_rfl) (fun _ _ _ h => h) (yieldsIf_load_mid (by rfl) 40 (.tmp 7) rfl (w.heap.size + 1) 0 rfl [.int .i64 v0, .int .i64 v1, .int .i64 v2, .int .i64 v3, .int .i64 v4, .int .u64 v5, .int .i64 v6, .int .u64 v7, .int .i64 v8, .int .u64 v9, .int .i64 v10] _ (fun _ h => Blk.range h.2.1) Try.underlying40 rfl Try.siz40) hHeld ?_
  refine wpAnyH_take (i := 10) (v := .agg #[.int .i64 t0, .int .i64 t1, .int .i64 t2]) rfl (by kernel_rfl) (by kernel_rfl) (by kernel_rfl) (fun _ _ _ h => h) (yieldsIf_load_mid (by rfl) 34 (.tmp 8) rfl (w.heap.size + 1 + 1) 0 rfl [.int .i64 t0, .int .i64 t1, .int .i64 t2] _ (fun _ h => Blk.range h.2.2.1) Try.underlying34 rfl Try.siz34') hHeld ?_
  go_simp
  refine wpAnyH_ready (rs := [8]) (by kernel_rfl) (by simp) ?_
  refine AllReadyH.cons rfl (fun K hK => ?_) AllReadyH.nil
  rw [if_pos (by rfl)]
  go_simp
  refine (follow_any v0 v1 v2 v3 v4 v5 v6 v7 v8 v9 v10 t0 t1 t2 _).mono ?_
  rintro e u3 ⟨rfl, hq⟩
  have hA3 := Blk.other hHeld.1 hq (by simp)
  have hV3 := Blk.other hHeld.2.1 hq (by simp)
  have hT3 := Blk.other hHeld.2.2.1 hq (by simp)
  have hP3 := Blk.other hHeld.2.2.2 hq (by simp)
  replace hg := gb_trans hg hq
  clear hq hHeld
  go_wp2_with fail
  refine hK.out _ _ ⟨hA3, hV3, hT3, hP3⟩ (fun hHeld => ?_)
  clear hK K hA3 hV3 hT3 hP3
  refine wpAnyH_ready (rs := [11]) (by kernel_rfl) (by simp) ?_
  refine AllReadyH.cons rfl (fun K hK => ?_) AllReadyH.nil
  rw [if_pos (by rfl)]
  go_simp
  refine (rfollow_any v0 v1 v2 v3 v4 v5 v6 v7 v8 v9 v10 t0 t1 t2 _).mono ?_
  rintro e u4 ⟨rfl, hq⟩
  have hA4 := Blk.other hHeld.1 hq (by simp)
  have hV4 := Blk.other hHeld.2.1 hq (by simp)
  have hT4 := Blk.other hHeld.2.2.1 hq (by simp)
  have hP4 := Blk.other hHeld.2.2.2 hq (by simp)
  replace hg := gb_trans hg hq
  clear hq hHeld
  go_wp2_with fail
  refine hK.out _ _ ⟨hA4, hV4, hT4, hP4⟩ (fun hHeld => ?_)
  clear hK K hA4 hV4 hT4 hP4
  refine wpAnyH_take (i := 12) (v := .bool true) rfl (by kernel_rfl) (by kernel_rfl) (by kernel_rfl) (fun _ _ _ h => h) (Or.inl ⟨by rfl, fun w' _ => by go_simp⟩) hHeld ?_
  refine wpAnyH_take (i := 13) (v := .bool true) rfl (by kernel_rfl) (by kernel_rfl) (by kernel_rfl) (fun _ _ _ h => h) (Or.inl ⟨by rfl, fun w' _ => by go_simp⟩) hHeld ?_
  refine wpAnyH_take (i := 14) (v := .bool true) rfl (by kernel_rfl) (by kernel_rfl) (by kernel_rfl) (fun _ _ _ h => h) (Or.inl ⟨by rfl, fun w' _ => by rfl⟩) hHeld ?_
  go_simp
  refine wpAnyH_take (i := 15) (v := .agg #[.int .u64 c0, .int .i64 c1, .int .i64 c2, .int .i64 c3, .int .i64 c4, .int .i64 c5, .int .i64 c6, .int .i64 c7, .bool c8, .int .i64 c9, .int .i64 c10, .int .i64 c11, .int .i64 c12, .bool c13, .bool c14, .int .i64 c15, .int .i64 c16, .int .i64 c17, .int .i64 c18, .int .i64 c19, .int .i64 c20, .int .i64 c21, .bool c22]) rfl (by kernel_rfl) (by kernel_rfl) (by kernel_rfl) (fun _ _ _ h => h) (yieldsIf_load_mid (by rfl) 36 (.tmp 6) rfl w.heap.size 0 rfl [.int .u64 c0, .int .i64 c1, .int .i64 c2, .int .i64 c3, .int .i64 c4, .int .i64 c5, .int .i64 c6, .int .i64 c7, .bool c8, .int .i64 c9, .int .i64 c10, .int .i64 c11, .int .i64 c12, .bool c13, .bool c14, .int .i64 c15, .int .i64 c16, .int .i64 c17, .int .i64 c18, .int .i64 c19, .int .i64 c20, .int .i64 c21, .bool c22] _ (fun _ h => Blk.range h.1) Try.underlying36 rfl Try.siz36) hHeld ?_
  refine wpAnyH_take (i := 16) (v := .agg #[.int .u64 p0, .int .i64 p1, .int .u64 p2, .int .i64 p3, .int .i64 p4, .int .i64 p5, .int .i64 p6, .int .i64 p7, .int .i64 p8, .int .i64 p9, .int .i64 p10, .int .i64 p11]) rfl (by kernel_rfl) (by kernel_rfl) (by kernel_rfl) (fun _ _ _ h => h) (yieldsIf_load_mid (by rfl) 42 (.tmp 9) rfl (w.heap.size + 1 + 1 + 1) 0 rfl [.int .u64 p0, .int .i64 p1, .int .u64 p2, .int .i64 p3, .int .i64 p4, .int .i64 p5, .int .i64 p6, .int .i64 p7, .int .i64 p8, .int .i64 p9, .int .i64 p10, .int .i64 p11] _ (fun _ h => Blk.range h.2.2.2) Try.underlying42 rfl Try.siz42) hHeld ?_
  go_simp
  refine wpAnyH_take (i := 17) (v := .int .i64 x) rfl (by kernel_rfl) (by kernel_rfl) (by kernel_rfl) (fun _ _ _ h => h) (Or.inl ⟨by rfl, fun w' _ => by rfl⟩) hHeld ?_
  refine wpAnyH_take (i := 18) (v := .int .i64 y) rfl (by kernel_rfl) (by kernel_rfl) (by kernel_rfl) (fun _ _ _ h => h) (Or.inl ⟨by rfl, fun w' _ => by rfl⟩) hHeld ?_
  go_simp
  refine wpAnyH_take (i := 20) (v := .agg #[.int .u64 c0, .int .i64 c1, .int .i64 c2, .int .i64 c3, .int .i64 c4, .int .i64 c5, .int .i64 c6, .int .i64 c7, .bool c8, .int .i64 c9, .int .i64 c10, .int .i64 c11, .int .i64 c12, .bool c13, .bool c14, .int .i64 c15, .int .i64 c16, .int .i64 c17, .int .i64 c18, .int .i64 c19, .int .i64 c20, .int .i64 c21, .bool c22]) rfl (by kernel_rfl) (by kernel_rfl) (by kernel_rfl) (fun _ _ _ h => h) (yieldsIf_load_mid (by rfl) 36 (.tmp 6) rfl w.heap.size 0 rfl [.int .u64 c0, .int .i64 c1, .int .i64 c2, .int .i64 c3, .int .i64 c4, .int .i64 c5, .int .i64 c6, .int .i64 c7, .bool c8, .int .i64 c9, .int .i64 c10, .int .i64 c11, .int .i64 c12, .bool c13, .bool c14, .int .i64 c15, .int .i64 c16, .int .i64 c17, .int .i64 c18, .int .i64 c19, .int .i64 c20, .int .i64 c21, .bool c22] _ (fun _ h => Blk.range h.1) Try.underlying36 rfl Try.siz36) hHeld ?_
  refine wpAnyH_take (i := 21) (v := .agg #[.int .u64 p0, .int .i64 p1, .int .u64 p2, .int .i64 p3, .int .i64 p4, .int .i64 p5, .int .i64 p6, .int .i64 p7, .int .i64 p8, .int .i64 p9, .int .i64 p10, .int .i64 p11]) rfl (by kernel_rfl) (by kernel_rfl) (by kernel_rfl) (fun _ _ _ h => h) (yieldsIf_load_mid (by rfl) 42 (.tmp 9) rfl (w.heap.size + 1 + 1 + 1) 0 rfl [.int .u64 p0, .int .i64 p1, .int .u64 p2, .int .i64 p3, .int .i64 p4, .int .i64 p5, .int .i64 p6, .int .i64 p7, .int .i64 p8, .int .i64 p9, .int .i64 p10, .int .i64 p11] _ (fun _ h => Blk.range h.2.2.2) Try.underlying42 rfl Try.siz42) hHeld ?_
  go_simp
  refine wpAnyH_take (i := 22) (v := .int .i64 x) rfl (by kernel_rfl) (by kernel_rfl) (by kernel_rfl) (fun _ _ _ h => h) (Or.inl ⟨by rfl, fun w' _ => by rfl⟩) hHeld ?_
  refine wpAnyH_take (i := 23) (v := .int .i64 y) rfl (by kernel_rfl) (by kernel_rfl) (by kernel_rfl) (fun _ _ _ h => h) (Or.inl ⟨by rfl, fun w' _ => by rfl⟩) hHeld ?_
  go_simp
  refine wpAnyH_ready (rs := [19]) (by kernel_rfl) (by simp) ?_
  refine AllReadyH.cons rfl (fun K hK => ?_) AllReadyH.nil
  rw [if_pos (by rfl)]
  go_simp
  refine (say_any c0 c1 c2 c3 c4 c5 c6 c7 c8 c9 c10 c11 c12 c13 c14 c15 c16 c17 c18 c19 c20 c21 c22 p0 p1 p2 p3 p4 p5 p6 p7 p8 p9 p10 p11 x y _).mono ?_
  rintro e u5 ⟨rfl, hq⟩
  have hA5 := Blk.other hHeld.1 hq (by simp)
  have hV5 := Blk.other hHeld.2.1 hq (by simp)
  have hT5 := Blk.other hHeld.2.2.1 hq (by simp)
  have hP5 := Blk.other hHeld.2.2.2 hq (by simp)
  replace hg := gb_trans hg hq
  clear hq hHeld
  go_wp2_with fail
  refine hK.out _ _ ⟨hA5, hV5, hT5, hP5⟩ (fun hHeld => ?_)
  clear hK K hA5 hV5 hT5 hP5
  refine wpAnyH_ready (rs := [24]) (by kernel_rfl) (by simp) ?_
  refine AllReadyH.cons rfl (fun K hK => ?_) AllReadyH.nil
  rw [if_pos (by rfl)]
  go_simp
  refine (rsay_any c0 c1 c2 c3 c4 c5 c6 c7 c8 c9 c10 c11 c12 c13 c14 c15 c16 c17 c18 c19 c20 c21 c22 p0 p1 p2 p3 p4 p5 p6 p7 p8 p9 p10 p11 x y _).mono ?_
  rintro e u6 ⟨rfl, hq⟩
  have hA6 := Blk.other hHeld.1 hq (by simp)
  have hV6 := Blk.other hHeld.2.1 hq (by simp)
  have hT6 := Blk.other hHeld.2.2.1 hq (by simp)
  have hP6 := Blk.other hHeld.2.2.2 hq (by simp)
  replace hg := gb_trans hg hq
  clear hq hHeld
  go_wp2_with fail
  refine hK.out _ _ ⟨hA6, hV6, hT6, hP6⟩ (fun hHeld => ?_)
  clear hK K hA6 hV6 hT6 hP6
  refine wpAnyH_take (i := 25) (v := .bool true) rfl (by kernel_rfl) (by kernel_rfl) (by kernel_rfl) (fun _ _ _ h => h) (Or.inl ⟨by rfl, fun w' _ => by go_simp⟩) hHeld ?_
  refine wpAnyH_take (i := 26) (v := .bool true) rfl (by kernel_rfl) (by kernel_rfl) (by kernel_rfl) (fun _ _ _ h => h) (Or.inl ⟨by rfl, fun w' _ => by go_simp⟩) hHeld ?_
  refine wpAnyH_take (i := 27) (v := .bool true) rfl (by kernel_rfl) (by kernel_rfl) (by kernel_rfl) (fun _ _ _ h => h) (Or.inl ⟨by rfl, fun w' _ => by rfl⟩) hHeld ?_
  go_simp
  refine wpAnyH_take (i := 28) (v := .agg #[.int .u64 p0, .int .i64 p1, .int .u64 p2, .int .i64 p3, .int .i64 p4, .int .i64 p5, .int .i64 p6, .int .i64 p7, .int .i64 p8, .int .i64 p9, .int .i64 p10, .int .i64 p11]) rfl (by kernel_rfl) (by kernel_rfl) (by kernel_rfl) (fun _ _ _ h => h) (yieldsIf_load_mid (by rfl) 42 (.tmp 9) rfl (w.heap.size + 1 + 1 + 1) 0 rfl [.int .u64 p0, .int .i64 p1, .int .u64 p2, .int .i64 p3, .int .i64 p4, .int .i64 p5, .int .i64 p6, .int .i64 p7, .int .i64 p8, .int .i64 p9, .int .i64 p10, .int .i64 p11] _ (fun _ h => Blk.range h.2.2.2) Try.underlying42 rfl Try.siz42) hHeld ?_
  refine wpAnyH_take (i := 29) (v := .agg #[.int .u64 c0, .int .i64 c1, .int .i64 c2, .int .i64 c3, .int .i64 c4, .int .i64 c5, .int .i64 c6, .int .i64 c7, .bool c8, .int .i64 c9, .int .i64 c10, .int .i64 c11, .int .i64 c12, .bool c13, .bool c14, .int .i64 c15, .int .i64 c16, .int .i64 c17, .int .i64 c18, .int .i64 c19, .int .i64 c20, .int .i64 c21, .bool c22]) rfl (by kernel_rfl) (by kernel_rfl) (by kernel_rfl) (fun _ _ _ h => h) (yieldsIf_load_mid (by rfl) 36 (.tmp 6) rfl w.heap.size 0 rfl [.int .u64 c0, .int .i64 c1, .int .i64 c2, .int .i64 c3, .int .i64 c4, .int .i64 c5, .int .i64 c6, .int .i64 c7, .bool c8, .int .i64 c9, .int .i64 c10, .int .i64 c11, .int .i64 c12, .bool c13, .bool c14, .int .i64 c15, .int .i64 c16, .int .i64 c17, .int .i64 c18, .int .i64 c19, .int .i64 c20, .int .i64 c21, .bool c22] _ (fun _ h => Blk.range h.1) Try.underlying36 rfl Try.siz36) hHeld ?_
  go_simp
  refine wpAnyH_take (i := 32) (v := .agg #[.int .u64 p0, .int .i64 p1, .int .u64 p2, .int .i64 p3, .int .i64 p4, .int .i64 p5, .int .i64 p6, .int .i64 p7, .int .i64 p8, .int .i64 p9, .int .i64 p10, .int .i64 p11]) rfl (by kernel_rfl) (by kernel_rfl) (by kernel_rfl) (fun _ _ _ h => h) (yieldsIf_load_mid (by rfl) 42 (.tmp 9) rfl (w.heap.size + 1 + 1 + 1) 0 rfl [.int .u64 p0, .int .i64 p1, .int .u64 p2, .int .i64 p3, .int .i64 p4, .int .i64 p5, .int .i64 p6, .int .i64 p7, .int .i64 p8, .int .i64 p9, .int .i64 p10, .int .i64 p11] _ (fun _ h => Blk.range h.2.2.2) Try.underlying42 rfl Try.siz42) hHeld ?_
  refine wpAnyH_take (i := 33) (v := .agg #[.int .u64 c0, .int .i64 c1, .int .i64 c2, .int .i64 c3, .int .i64 c4, .int .i64 c5, .int .i64 c6, .int .i64 c7, .bool c8, .int .i64 c9, .int .i64 c10, .int .i64 c11, .int .i64 c12, .bool c13, .bool c14, .int .i64 c15, .int .i64 c16, .int .i64 c17, .int .i64 c18, .int .i64 c19, .int .i64 c20, .int .i64 c21, .bool c22]) rfl (by kernel_rfl) (by kernel_rfl) (by kernel_rfl) (fun _ _ _ h => h) (yieldsIf_load_mid (by rfl) 36 (.tmp 6) rfl w.heap.size 0 rfl [.int .u64 c0, .int .i64 c1, .int .i64 c2, .int .i64 c3, .int .i64 c4, .int .i64 c5, .int .i64 c6, .int .i64 c7, .bool c8, .int .i64 c9, .int .i64 c10, .int .i64 c11, .int .i64 c12, .bool c13, .bool c14, .int .i64 c15, .int .i64 c16, .int .i64 c17, .int .i64 c18, .int .i64 c19, .int .i64 c20, .int .i64 c21, .bool c22] _ (fun _ h => Blk.range h.1) Try.underlying36 rfl Try.siz36) hHeld ?_
  go_simp
  refine wpAnyH_ready (rs := [30]) (by kernel_rfl) (by simp) ?_
  refine AllReadyH.cons rfl (fun K hK => ?_) AllReadyH.nil
  rw [if_pos (by rfl)]
  go_simp
  refine (own_any c0 c1 c2 c3 c4 c5 c6 c7 c8 c9 c10 c11 c12 c13 c14 c15 c16 c17 c18 c19 c20 c21 c22 _).mono ?_
  rintro e u7 ⟨rfl, hq⟩
  have hA7 := Blk.other hHeld.1 hq (by simp)
  have hV7 := Blk.other hHeld.2.1 hq (by simp)
  have hT7 := Blk.other hHeld.2.2.1 hq (by simp)
  have hP7 := Blk.other hHeld.2.2.2 hq (by simp)
  replace hg := gb_trans hg hq
  clear hq hHeld
  go_wp2_with fail
  refine hK.out _ _ ⟨hA7, hV7, hT7, hP7⟩ (fun hHeld => ?_)
  clear hK K hA7 hV7 hT7 hP7
  refine wpAnyH_ready (rs := [31]) (by kernel_rfl) (by simp) ?_
  refine AllReadyH.cons rfl (fun K hK => ?_) AllReadyH.nil
  rw [if_pos (by rfl)]
  go_simp
  refine (same_any p0 p1 p2 p3 p4 p5 p6 p7 p8 p9 p10 p11 c0 0 c0 c5 c6 c7 c3 c4 0 c19 c20 c21 _).mono ?_
  rintro e u8 ⟨rfl, hq⟩
  have hA8 := Blk.other hHeld.1 hq (by simp)
  have hV8 := Blk.other hHeld.2.1 hq (by simp)
  have hT8 := Blk.other hHeld.2.2.1 hq (by simp)
  have hP8 := Blk.other hHeld.2.2.2 hq (by simp)
  replace hg := gb_trans hg hq
  clear hq hHeld
  go_wp2_with fail
  refine hK.out _ _ ⟨hA8, hV8, hT8, hP8⟩ (fun hHeld => ?_)
  clear hK K hA8 hV8 hT8 hP8
  refine wpAnyH_ready (rs := [34]) (by kernel_rfl) (by simp) ?_
  refine AllReadyH.cons rfl (fun K hK => ?_) AllReadyH.nil
  rw [if_pos (by rfl)]
  go_simp
  refine (rown_any c0 c1 c2 c3 c4 c5 c6 c7 c8 c9 c10 c11 c12 c13 c14 c15 c16 c17 c18 c19 c20 c21 c22 _).mono ?_
  rintro e u9 ⟨rfl, hq⟩
  have hA9 := Blk.other hHeld.1 hq (by simp)
  have hV9 := Blk.other hHeld.2.1 hq (by simp)
  have hT9 := Blk.other hHeld.2.2.1 hq (by simp)
  have hP9 := Blk.other hHeld.2.2.2 hq (by simp)
  replace hg := gb_trans hg hq
  clear hq hHeld
  go_wp2_with fail
  refine hK.out _ _ ⟨hA9, hV9, hT9, hP9⟩ (fun hHeld => ?_)
  clear hK K hA9 hV9 hT9 hP9
  refine wpAnyH_take (i := 35) (v := .bool (eqPar p0 p1 p2 p3 p4 p5 p6 p7 p8 p9 p10 p11 c0 0 c0 c5 c6 c7 c3 c4 0 c19 c20 c21)) rfl (by kernel_rfl) (by kernel_rfl) (by kernel_rfl) (fun _ _ _ h => h) (Or.inl ⟨by rfl, fun w' _ => by (go_simp; simp only [chainN]; rfl)⟩) hHeld ?_
  go_simp
  refine wpAnyH_take (i := 36) (v := .bool true) rfl (by kernel_rfl) (by kernel_rfl) (by kernel_rfl) (fun _ _ _ h => h) (Or.inl ⟨by rfl, fun w' _ => by go_simp⟩) hHeld ?_
  refine wpAnyH_take (i := 37) (v := .bool true) rfl (by kernel_rfl) (by kernel_rfl) (by kernel_rfl) (fun _ _ _ h => h) (Or.inl ⟨by rfl, fun w' _ => by go_simp⟩) hHeld ?_
  refine wpAnyH_take (i := 38) (v := .bool true) rfl (by kernel_rfl) (by kernel_rfl) (by kernel_rfl) (fun _ _ _ h => h) (Or.inl ⟨by rfl, fun w' _ => by rfl⟩) hHeld ?_
  go_simp
  refine wpAnyH_ready (rs := [39]) (by kernel_rfl) (by simp) ?_
  refine AllReadyH.cons rfl (fun K hK => ?_) AllReadyH.nil
  rw [if_pos (by rfl)]
  go_simp
  refine (awake_any _).mono ?_
  rintro e u10 ⟨rfl, hq⟩
  have hA10 := Blk.other hHeld.1 hq (by simp)
  have hV10 := Blk.other hHeld.2.1 hq (by simp)
  have hT10 := Blk.other hHeld.2.2.1 hq (by simp)
  have hP10 := Blk.other hHeld.2.2.2 hq (by simp)
  replace hg := gb_trans hg hq
  clear hq hHeld
  go_wp2_with fail
  refine hK.out _ _ ⟨hA10, hV10, hT10, hP10⟩ (fun hHeld => ?_)
  clear hK K hA10 hV10 hT10 hP10
  refine wpAnyH_take (i := 40) (v := .bool true) rfl (by kernel_rfl) (by kernel_rfl) (by kernel_rfl) (fun _ _ _ h => h) (Or.inl ⟨by rfl, fun w' _ => by go_simp⟩) hHeld ?_
  refine wpAnyH_take (i := 41) (v := .bool true) rfl (by kernel_rfl) (by kernel_rfl) (by kernel_rfl) (fun _ _ _ h => h) (Or.inl ⟨by rfl, fun w' _ => by rfl⟩) hHeld ?_
  refine wpAnyH_done (by kernel_rfl) ?_ _
  refine NoPanic.normal ?_
  go_wp2_with fail
  go_ret
  exact ⟨rfl, below_of_gb hg⟩
end Go.Proofs.Ytabibaamlhchbaa
