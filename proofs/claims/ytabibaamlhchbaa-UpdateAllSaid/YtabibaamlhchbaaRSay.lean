/- Contract of the reference's Say. -/
import Derived.Test.YtabibaamlhchbaaUpdateLine
import Derived.BigRegion
import Derived.Deep.DeepCutAuto
namespace Go.Proofs.Ytabibaamlhchbaa
open Go.RowKit
attribute [local go_sem ↓] Go.wp_at_zero Go.wp_at_succ

set_option maxHeartbeats 8000000 in
set_option maxRecDepth 100000 in
theorem rsay_any (c0 : Int) (c1 : Int) (c2 : Int) (c3 : Int) (c4 : Int) (c5 : Int) (c6 : Int) (c7 : Int) (c8 : Bool) (c9 : Int) (c10 : Int) (c11 : Int) (c12 : Int) (c13 : Bool) (c14 : Bool) (c15 : Int) (c16 : Int) (c17 : Int) (c18 : Int) (c19 : Int) (c20 : Int) (c21 : Int) (c22 : Bool) (p0 : Int) (p1 : Int) (p2 : Int) (p3 : Int) (p4 : Int) (p5 : Int) (p6 : Int) (p7 : Int) (p8 : Int) (p9 : Int) (p10 : Int) (p11 : Int) (x y : Int) (w : World) :
    Calls Try.prog 20 #[.agg #[.int .u64 c0, .int .i64 c1, .int .i64 c2, .int .i64 c3, .int .i64 c4, .int .i64 c5, .int .i64 c6, .int .i64 c7, .bool c8, .int .i64 c9, .int .i64 c10, .int .i64 c11, .int .i64 c12, .bool c13, .bool c14, .int .i64 c15, .int .i64 c16, .int .i64 c17, .int .i64 c18, .int .i64 c19, .int .i64 c20, .int .i64 c21, .bool c22], .agg #[.int .u64 p0, .int .i64 p1, .int .u64 p2, .int .i64 p3, .int .i64 p4, .int .i64 p5, .int .i64 p6, .int .i64 p7, .int .i64 p8, .int .i64 p9, .int .i64 p10, .int .i64 p11], .int .i64 x, .int .i64 y] w fun e w' => e = .returned (.agg #[.int .i64 11, .int .i64 c2, .int .i64 p10, .int .i64 0, .int .u64 c0, .int .i64 x, .int .i64 y, .int .i64 c9, .int .i64 0, .int .u64 0, .int .i64 0, .int .i64 p9, .int .i64 p6, .int .i64 p3, .int .i64 p4, .int .i64 p5, .int .i64 p7, .int .u64 p2, .int .i64 p8, .int .i64 p11, .int .i64 0, .int .i64 0, .int .i64 0]) ∧ w.grownBy w' none := by
  go_enter Try.func20, Try.ntmps20
  go_upto_region 1 with (fail)
  refine with3 (motive := fun w' => Code.wp Try.prog _ _ _ w') ?_
  intro w3 hA hP hR hg hs3
  have c0_ : w3.cell? ⟨w.heap.size, 0, none⟩ = some (.int .u64 c0) := Blk.cell hA 0
  have c2_ : w3.cell? ⟨w.heap.size, 2, none⟩ = some (.int .i64 c2) := Blk.cell hA 2
  have c9_ : w3.cell? ⟨w.heap.size, 9, none⟩ = some (.int .i64 c9) := Blk.cell hA 9
  have p10_ : w3.cell? ⟨w.heap.size + 1, 10, none⟩ = some (.int .i64 p10) := Blk.cell hP 10
  have HS := hide hs3
  clear hs3
  go_upto_region 2 with ((with_reducible refine gate_op (.store 46 (.tmp 9) (.tmp 22)) rfl ?_); go_must (refine wpList_store_row rfl 46 (.tmp 9) (.tmp 22) rfl w3.heap.size #[.int .i64 11, .int .i64 c2, .int .i64 p10, .int .i64 0, .int .u64 c0, .int .i64 x, .int .i64 y, .int .i64 c9, .int .i64 0, .int .u64 0, .int .i64 0, .int .i64 0, .int .i64 0, .int .i64 0, .int .i64 0, .int .i64 0, .int .i64 0, .int .u64 0, .int .i64 0, .int .i64 0, .int .i64 0, .int .i64 0, .int .i64 0] ?q1 ?q2 46 #[.int .i64 0, .int .i64 0, .int .i64 0, .int .i64 0, .int .u64 0, .int .i64 0, .int .i64 0, .int .i64 0, .int .i64 0, .int .u64 0, .int .i64 0, .int .i64 0, .int .i64 0, .int .i64 0, .int .i64 0, .int .i64 0, .int .i64 0, .int .u64 0, .int .i64 0, .int .i64 0, .int .i64 0, .int .i64 0, .int .i64 0] ?q0 (by kernel_rfl) ?q3 ?q4 ?_))
  case q1 => rfl
  case q2 => rfl
  case q0 => exact Blk.new w3 46 _
  case q3 => rfl
  case q4 => simp [Value.oneCell']
  show Code.wp _ _ _ _ _
  rw [show ∀ a : Act, a.put none undef = a from fun _ => rfl]
  have hW := with_row2 w3 46 #[.int .i64 0, .int .i64 0, .int .i64 0, .int .i64 0, .int .u64 0, .int .i64 0, .int .i64 0, .int .i64 0, .int .i64 0, .int .u64 0, .int .i64 0, .int .i64 0, .int .i64 0, .int .i64 0, .int .i64 0, .int .i64 0, .int .i64 0, .int .u64 0, .int .i64 0, .int .i64 0, .int .i64 0, .int .i64 0, .int .i64 0] #[.int .i64 11, .int .i64 c2, .int .i64 p10, .int .i64 0, .int .u64 c0, .int .i64 x, .int .i64 y, .int .i64 c9, .int .i64 0, .int .u64 0, .int .i64 0, .int .i64 0, .int .i64 0, .int .i64 0, .int .i64 0, .int .i64 0, .int .i64 0, .int .u64 0, .int .i64 0, .int .i64 0, .int .i64 0, .int .i64 0, .int .i64 0]
  have hbm : w.heap.size + 1 + 1 < w3.heap.size := by have := HS.out; omega
  generalize (w3.alloc (.cells #[.int .i64 0, .int .i64 0, .int .i64 0, .int .i64 0, .int .u64 0, .int .i64 0, .int .i64 0, .int .i64 0, .int .i64 0, .int .u64 0, .int .i64 0, .int .i64 0, .int .i64 0, .int .i64 0, .int .i64 0, .int .i64 0, .int .i64 0, .int .u64 0, .int .i64 0, .int .i64 0, .int .i64 0, .int .i64 0, .int .i64 0] 46)).setRow w3.heap.size #[.int .i64 11, .int .i64 c2, .int .i64 p10, .int .i64 0, .int .u64 c0, .int .i64 x, .int .i64 y, .int .i64 c9, .int .i64 0, .int .u64 0, .int .i64 0, .int .i64 0, .int .i64 0, .int .i64 0, .int .i64 0, .int .i64 0, .int .i64 0, .int .u64 0, .int .i64 0, .int .i64 0, .int .i64 0, .int .i64 0, .int .i64 0] = w5 at *
  generalize w3.heap.size = bm at *
  obtain ⟨hM5, hgw⟩ := hW
  have hP5 := Blk.other hP hgw (by simp)
  have hR5 : Blk w5 (w.heap.size + 1 + 1) 46 _ := Blk.other hR hgw (by simp)
  have hg5 := gb_trans hg hgw
  clear hA hP hR hg hgw c0_ c2_ c9_ p10_
  go_cut [9] (fun s9 wx => s9 = .pointer (some ⟨bm, 0, none⟩) ∧ Blk wx bm 46 #[.int .i64 11, .int .i64 c2, .int .i64 p10, .int .i64 0, .int .u64 c0, .int .i64 x, .int .i64 y, .int .i64 c9, .int .i64 0, .int .u64 0, .int .i64 0, .int .i64 p9, .int .i64 0, .int .i64 0, .int .i64 0, .int .i64 0, .int .i64 0, .int .u64 0, .int .i64 0, .int .i64 p11, .int .i64 0, .int .i64 0, .int .i64 0] ∧ Blk wx (w.heap.size + 1) 42 #[.int .u64 p0, .int .i64 p1, .int .u64 p2, .int .i64 p3, .int .i64 p4, .int .i64 p5, .int .i64 p6, .int .i64 p7, .int .i64 p8, .int .i64 p9, .int .i64 p10, .int .i64 p11] ∧ Blk wx (w.heap.size + 1 + 1) 46 #[.int .i64 0, .int .i64 0, .int .i64 0, .int .i64 0, .int .u64 0, .int .i64 0, .int .i64 0, .int .i64 0, .int .i64 0, .int .u64 0, .int .i64 0, .int .i64 0, .int .i64 0, .int .i64 0, .int .i64 0, .int .i64 0, .int .i64 0, .int .u64 0, .int .i64 0, .int .i64 0, .int .i64 0, .int .i64 0, .int .i64 0] ∧ w.grownBy wx none)
  case first =>
    have p9_ : w5.cell? ⟨w.heap.size + 1, 9, none⟩ = some (.int .i64 p9) := Blk.cell hP5 9
    have p11_ : w5.cell? ⟨w.heap.size + 1, 11, none⟩ = some (.int .i64 p11) := Blk.cell hP5 11
    have m11 : w5.cell? ⟨bm, 11, none⟩ = some (.int .i64 0) := Blk.cell hM5 11
    have m19 : w5.cell? ⟨bm, 19, none⟩ = some (.int .i64 0) := Blk.cell hM5 19
    have f11 : w5.frozen? ⟨bm, 11, none⟩ = false := Blk.free hM5 11
    have f19 : w5.frozen? ⟨bm, 19, none⟩ = false := Blk.free hM5 19
    go_region
    go_wp2_with fail
    go_meet
    have gs := gb_trans (gb_set (gb_refl w5 (some bm)) 11 (.int .i64 p9)) (gb_set (gb_refl _ (some bm)) 19 (.int .i64 p11))
    have hM6 := Blk.set (Blk.set hM5 11 (.int .i64 p9)) 19 (.int .i64 p11)
    have e : ((#[.int .i64 11, .int .i64 c2, .int .i64 p10, .int .i64 0, .int .u64 c0, .int .i64 x, .int .i64 y, .int .i64 c9, .int .i64 0, .int .u64 0, .int .i64 0, .int .i64 0, .int .i64 0, .int .i64 0, .int .i64 0, .int .i64 0, .int .i64 0, .int .u64 0, .int .i64 0, .int .i64 0, .int .i64 0, .int .i64 0, .int .i64 0] : Array Value).setIfInBounds 11 (.int .i64 p9)).setIfInBounds 19 (.int .i64 p11) = #[.int .i64 11, .int .i64 c2, .int .i64 p10, .int .i64 0, .int .u64 c0, .int .i64 x, .int .i64 y, .int .i64 c9, .int .i64 0, .int .u64 0, .int .i64 0, .int .i64 p9, .int .i64 0, .int .i64 0, .int .i64 0, .int .i64 0, .int .i64 0, .int .u64 0, .int .i64 0, .int .i64 p11, .int .i64 0, .int .i64 0, .int .i64 0] := by rfl
    rw [e] at hM6
    have hP6 := Blk.other hP5 gs (by simp; omega)
    have hR6 := Blk.other hR5 gs (by simp; omega)
    have hg6 := gb_young hg5 gs (by omega)
    first
      | exact ⟨rfl, hM6, hP6, hR6, hg6⟩
      | exact ⟨rfl, Blk.drew hM6, Blk.drew hP6, Blk.drew hR6, gb_drew hg6⟩
  case rest =>
    obtain ⟨rfl, hM6, hP6, hR6, hg6⟩ := hcut
    clear hM5 hP5 hR5 hg5
    go_upto_region 3 with (fail)
    go_cut [9] (fun s9 wx => s9 = .pointer (some ⟨bm, 0, none⟩) ∧ Blk wx bm 46 #[.int .i64 11, .int .i64 c2, .int .i64 p10, .int .i64 0, .int .u64 c0, .int .i64 x, .int .i64 y, .int .i64 c9, .int .i64 0, .int .u64 0, .int .i64 0, .int .i64 p9, .int .i64 p6, .int .i64 p3, .int .i64 p4, .int .i64 p5, .int .i64 p7, .int .u64 p2, .int .i64 p8, .int .i64 p11, .int .i64 0, .int .i64 0, .int .i64 0] ∧ Blk wx (w.heap.size + 1 + 1) 46 #[.int .i64 0, .int .i64 0, .int .i64 0, .int .i64 0, .int .u64 0, .int .i64 0, .int .i64 0, .int .i64 0, .int .i64 0, .int .u64 0, .int .i64 0, .int .i64 0, .int .i64 0, .int .i64 0, .int .i64 0, .int .i64 0, .int .i64 0, .int .u64 0, .int .i64 0, .int .i64 0, .int .i64 0, .int .i64 0, .int .i64 0] ∧ w.grownBy wx none)
    case first =>
      have p2_ : wc.cell? ⟨w.heap.size + 1, 2, none⟩ = some (.int .u64 p2) := Blk.cell hP6 2
      have p3_ : wc.cell? ⟨w.heap.size + 1, 3, none⟩ = some (.int .i64 p3) := Blk.cell hP6 3
      have p4_ : wc.cell? ⟨w.heap.size + 1, 4, none⟩ = some (.int .i64 p4) := Blk.cell hP6 4
      have p5_ : wc.cell? ⟨w.heap.size + 1, 5, none⟩ = some (.int .i64 p5) := Blk.cell hP6 5
      have p6_ : wc.cell? ⟨w.heap.size + 1, 6, none⟩ = some (.int .i64 p6) := Blk.cell hP6 6
      have p7_ : wc.cell? ⟨w.heap.size + 1, 7, none⟩ = some (.int .i64 p7) := Blk.cell hP6 7
      have p8_ : wc.cell? ⟨w.heap.size + 1, 8, none⟩ = some (.int .i64 p8) := Blk.cell hP6 8
      have m12 : wc.cell? ⟨bm, 12, none⟩ = some (.int .i64 0) := Blk.cell hM6 12
      have f12 : wc.frozen? ⟨bm, 12, none⟩ = false := Blk.free hM6 12
      have m13 : wc.cell? ⟨bm, 13, none⟩ = some (.int .i64 0) := Blk.cell hM6 13
      have f13 : wc.frozen? ⟨bm, 13, none⟩ = false := Blk.free hM6 13
      have m14 : wc.cell? ⟨bm, 14, none⟩ = some (.int .i64 0) := Blk.cell hM6 14
      have f14 : wc.frozen? ⟨bm, 14, none⟩ = false := Blk.free hM6 14
      have m15 : wc.cell? ⟨bm, 15, none⟩ = some (.int .i64 0) := Blk.cell hM6 15
      have f15 : wc.frozen? ⟨bm, 15, none⟩ = false := Blk.free hM6 15
      have m16 : wc.cell? ⟨bm, 16, none⟩ = some (.int .i64 0) := Blk.cell hM6 16
      have f16 : wc.frozen? ⟨bm, 16, none⟩ = false := Blk.free hM6 16
      have m17 : wc.cell? ⟨bm, 17, none⟩ = some (.int .u64 0) := Blk.cell hM6 17
      have f17 : wc.frozen? ⟨bm, 17, none⟩ = false := Blk.free hM6 17
      have m18 : wc.cell? ⟨bm, 18, none⟩ = some (.int .i64 0) := Blk.cell hM6 18
      have f18 : wc.frozen? ⟨bm, 18, none⟩ = false := Blk.free hM6 18
      go_region
      go_wp2_with fail
      go_meet
      have gs := gb_trans (gb_trans (gb_trans (gb_trans (gb_trans (gb_trans (gb_set (gb_refl wc (some bm)) 12 (.int .i64 p6)) (gb_set (gb_refl _ (some bm)) 16 (.int .i64 p7))) (gb_set (gb_refl _ (some bm)) 13 (.int .i64 p3))) (gb_set (gb_refl _ (some bm)) 14 (.int .i64 p4))) (gb_set (gb_refl _ (some bm)) 15 (.int .i64 p5))) (gb_set (gb_refl _ (some bm)) 17 (.int .u64 p2))) (gb_set (gb_refl _ (some bm)) 18 (.int .i64 p8))
      have hM7 := Blk.set (Blk.set (Blk.set (Blk.set (Blk.set (Blk.set (Blk.set hM6 12 (.int .i64 p6)) 16 (.int .i64 p7)) 13 (.int .i64 p3)) 14 (.int .i64 p4)) 15 (.int .i64 p5)) 17 (.int .u64 p2)) 18 (.int .i64 p8)
      have e : (((((((#[.int .i64 11, .int .i64 c2, .int .i64 p10, .int .i64 0, .int .u64 c0, .int .i64 x, .int .i64 y, .int .i64 c9, .int .i64 0, .int .u64 0, .int .i64 0, .int .i64 p9, .int .i64 0, .int .i64 0, .int .i64 0, .int .i64 0, .int .i64 0, .int .u64 0, .int .i64 0, .int .i64 p11, .int .i64 0, .int .i64 0, .int .i64 0] : Array Value).setIfInBounds 12 (.int .i64 p6)).setIfInBounds 16 (.int .i64 p7)).setIfInBounds 13 (.int .i64 p3)).setIfInBounds 14 (.int .i64 p4)).setIfInBounds 15 (.int .i64 p5)).setIfInBounds 17 (.int .u64 p2)).setIfInBounds 18 (.int .i64 p8) = #[.int .i64 11, .int .i64 c2, .int .i64 p10, .int .i64 0, .int .u64 c0, .int .i64 x, .int .i64 y, .int .i64 c9, .int .i64 0, .int .u64 0, .int .i64 0, .int .i64 p9, .int .i64 p6, .int .i64 p3, .int .i64 p4, .int .i64 p5, .int .i64 p7, .int .u64 p2, .int .i64 p8, .int .i64 p11, .int .i64 0, .int .i64 0, .int .i64 0] := by rfl
      rw [e] at hM7
      have hR7 := Blk.other hR6 gs (by simp; omega)
      have hg7 := gb_young hg6 gs (by omega)
      exact ⟨rfl, Blk.drew hM7, Blk.drew hR7, gb_drew hg7⟩
    case rest =>
      obtain ⟨rfl, hM7, hR7, hg7⟩ := hcut
      clear hM6 hP6 hR6 hg6
      go_wp2_with (first | ((with_reducible refine gate_op (.load 46 (.tmp 9)) rfl ?_); go_must (refine wpList_load_mid rfl 46 (.tmp 9) rfl bm 0 rfl [.int .i64 11, .int .i64 c2, .int .i64 p10, .int .i64 0, .int .u64 c0, .int .i64 x, .int .i64 y, .int .i64 c9, .int .i64 0, .int .u64 0, .int .i64 0, .int .i64 p9, .int .i64 p6, .int .i64 p3, .int .i64 p4, .int .i64 p5, .int .i64 p7, .int .u64 p2, .int .i64 p8, .int .i64 p11, .int .i64 0, .int .i64 0, .int .i64 0] _ (Blk.range hM7) Try.underlying46 rfl Try.siz46 ?_)) | ((with_reducible refine gate_op (.store 46 (.tmp 8) (.tmp 46)) rfl ?_); go_must (refine wpList_store_row rfl 46 (.tmp 8) (.tmp 46) rfl (w.heap.size + 1 + 1) #[.int .i64 11, .int .i64 c2, .int .i64 p10, .int .i64 0, .int .u64 c0, .int .i64 x, .int .i64 y, .int .i64 c9, .int .i64 0, .int .u64 0, .int .i64 0, .int .i64 p9, .int .i64 p6, .int .i64 p3, .int .i64 p4, .int .i64 p5, .int .i64 p7, .int .u64 p2, .int .i64 p8, .int .i64 p11, .int .i64 0, .int .i64 0, .int .i64 0] ?r1 ?r2 46 #[.int .i64 0, .int .i64 0, .int .i64 0, .int .i64 0, .int .u64 0, .int .i64 0, .int .i64 0, .int .i64 0, .int .i64 0, .int .u64 0, .int .i64 0, .int .i64 0, .int .i64 0, .int .i64 0, .int .i64 0, .int .i64 0, .int .i64 0, .int .u64 0, .int .i64 0, .int .i64 0, .int .i64 0, .int .i64 0, .int .i64 0] ?r0 (by kernel_rfl) ?r3 ?r4 ?_)))
      case r0 => exact hR7
      case r3 => rfl
      case r4 => simp [Value.oneCell']
      have hb8 := Blk.setRow hR7 #[.int .i64 11, .int .i64 c2, .int .i64 p10, .int .i64 0, .int .u64 c0, .int .i64 x, .int .i64 y, .int .i64 c9, .int .i64 0, .int .u64 0, .int .i64 0, .int .i64 p9, .int .i64 p6, .int .i64 p3, .int .i64 p4, .int .i64 p5, .int .i64 p7, .int .u64 p2, .int .i64 p8, .int .i64 p11, .int .i64 0, .int .i64 0, .int .i64 0]
      have hg8 := gb_setRow hg7 (b := w.heap.size + 1 + 1) (by omega) #[.int .i64 11, .int .i64 c2, .int .i64 p10, .int .i64 0, .int .u64 c0, .int .i64 x, .int .i64 y, .int .i64 c9, .int .i64 0, .int .u64 0, .int .i64 0, .int .i64 p9, .int .i64 p6, .int .i64 p3, .int .i64 p4, .int .i64 p5, .int .i64 p7, .int .u64 p2, .int .i64 p8, .int .i64 p11, .int .i64 0, .int .i64 0, .int .i64 0]
      refine bodyPost_ret (v := .agg #[.int .i64 11, .int .i64 c2, .int .i64 p10, .int .i64 0, .int .u64 c0, .int .i64 x, .int .i64 y, .int .i64 c9, .int .i64 0, .int .u64 0, .int .i64 0, .int .i64 p9, .int .i64 p6, .int .i64 p3, .int .i64 p4, .int .i64 p5, .int .i64 p7, .int .u64 p2, .int .i64 p8, .int .i64 p11, .int .i64 0, .int .i64 0, .int .i64 0]) ?_ rfl ⟨rfl, hg8⟩
      exact results_cell_row rfl _ _ (w.heap.size + 1 + 1) 46 #[.int .i64 11, .int .i64 c2, .int .i64 p10, .int .i64 0, .int .u64 c0, .int .i64 x, .int .i64 y, .int .i64 c9, .int .i64 0, .int .u64 0, .int .i64 0, .int .i64 p9, .int .i64 p6, .int .i64 p3, .int .i64 p4, .int .i64 p5, .int .i64 p7, .int .u64 p2, .int .i64 p8, .int .i64 p11, .int .i64 0, .int .i64 0, .int .i64 0] (0, 0) _ rfl hb8 Try.underlying46 rfl (by kernel_rfl)
end Go.Proofs.Ytabibaamlhchbaa
