/- Reset's contract. -/
import Derived.Test.YtjbkffhbgcoliaaSample
namespace Go.Proofs.Ytjbkffhbgcoliaa
open Go.RowKit

theorem clampI_in {v m : Int} (h1 : 0 ≤ v) (h2 : v ≤ m) : clampI v m = v := by unfold clampI; omega
theorem new_in {kp ki step : Int} (h1 : 0 ≤ kp ∧ kp ≤ 2000) (h2 : 0 ≤ ki ∧ ki ≤ 2000) (h3 : 0 ≤ step ∧ step ≤ 1000000000) : Sv.new kp ki step = ⟨kp, ki, step, 0, 0, 0, 0⟩ := by
  unfold Sv.new
  rw [clampI_in h1.1 h1.2, clampI_in h2.1 h2.2, clampI_in h3.1 h3.2]

theorem blk7 {w : World} {b : Nat} {t : TypeId} {c0 c1 c2 c3 c4 c5 c6 : Value} (h : Blk w b t #[c0, c1, c2, c3, c4, c5, c6]) (v0 v1 v2 v3 v4 v5 v6 : Value) : Blk (((((((w.setCell ⟨b, 0, none⟩ v0).setCell ⟨b, 1, none⟩ v1).setCell ⟨b, 2, none⟩ v2).setCell ⟨b, 3, none⟩ v3).setCell ⟨b, 4, none⟩ v4).setCell ⟨b, 5, none⟩ v5).setCell ⟨b, 6, none⟩ v6) b t #[v0, v1, v2, v3, v4, v5, v6] := by
  have h7 := (Blk.set (Blk.set (Blk.set (Blk.set (Blk.set (Blk.set (Blk.set h 0 v0) 1 v1) 2 v2) 3 v3) 4 v4) 5 v5) 6 v6)
  simpa using h7
theorem gb7 {a w : World} {b : Nat} (h : a.grownBy w (some b)) (v0 v1 v2 v3 v4 v5 v6 : Value) : a.grownBy (((((((w.setCell ⟨b, 0, none⟩ v0).setCell ⟨b, 1, none⟩ v1).setCell ⟨b, 2, none⟩ v2).setCell ⟨b, 3, none⟩ v3).setCell ⟨b, 4, none⟩ v4).setCell ⟨b, 5, none⟩ v5).setCell ⟨b, 6, none⟩ v6) (some b) :=
  gb_set (gb_set (gb_set (gb_set (gb_set (gb_set (gb_set h _ _) _ _) _ _) _ _) _ _) _ _) _ _

set_option maxHeartbeats 1000000 in
set_option maxRecDepth 100000 in
theorem reset_any (b : Nat) (s : Sv) (w : World) (K : Int) (hb : SvAt w b s) (hk : s.Ok K) :
    Calls Try.prog 16 #[.pointer (some ⟨b, 0, none⟩)] w fun e w' => e = .returned (.tuple #[]) ∧ SvAt w' b (Sv.new s.kp s.ki s.step) ∧ w.grownBy w' (some b) := by
  have e1 := new_in hk.kp hk.ki hk.step
  obtain ⟨kp, ki, step, st, freq, drift, near⟩ := s
  dsimp only at e1 ⊢
  have E1 := hide e1
  rw [e1]
  clear e1 hk
  have hc0 : w.cell? ⟨b, 0, none⟩ = some (.int .i64 kp) := Blk.cell hb 0
  have hc1 : w.cell? ⟨b, 1, none⟩ = some (.int .i64 ki) := Blk.cell hb 1
  have hc2 : w.cell? ⟨b, 2, none⟩ = some (.int .i64 step) := Blk.cell hb 2
  have hlt := Blk.lt hb
  go_enter Try.func16, Try.ntmps16
  go_wp2_with fail
  go_region_with (go_at_call 9; have hN := new_any kp ki step w.drew; rw [E1.out] at hN; refine hN.mono ?_; clear hN; rintro e w4 ⟨rfl, hb4, hg4⟩; have hb4b : SvAt w4 b _ := Blk.other (w := w.drew) hb hg4 (by simp); have n0 : w4.cell? ⟨w.heap.size, 0, none⟩ = some (.int .i64 kp) := Blk.cell hb4 0; have n1 : w4.cell? ⟨w.heap.size, 1, none⟩ = some (.int .i64 ki) := Blk.cell hb4 1; have n2 : w4.cell? ⟨w.heap.size, 2, none⟩ = some (.int .i64 step) := Blk.cell hb4 2; have n3 : w4.cell? ⟨w.heap.size, 3, none⟩ = some (.int .i64 0) := Blk.cell hb4 3; have n4 : w4.cell? ⟨w.heap.size, 4, none⟩ = some (.int .i64 0) := Blk.cell hb4 4; have n5 : w4.cell? ⟨w.heap.size, 5, none⟩ = some (.int .i64 0) := Blk.cell hb4 5; have n6 : w4.cell? ⟨w.heap.size, 6, none⟩ = some (.int .i64 0) := Blk.cell hb4 6; have m0 : w4.cell? ⟨b, 0, none⟩ = some (.int .i64 kp) := Blk.cell hb4b 0; have m1 : w4.cell? ⟨b, 1, none⟩ = some (.int .i64 ki) := Blk.cell hb4b 1; have m2 : w4.cell? ⟨b, 2, none⟩ = some (.int .i64 step) := Blk.cell hb4b 2; have m3 : w4.cell? ⟨b, 3, none⟩ = some (.int .i64 st) := Blk.cell hb4b 3; have m4 : w4.cell? ⟨b, 4, none⟩ = some (.int .i64 freq) := Blk.cell hb4b 4; have m5 : w4.cell? ⟨b, 5, none⟩ = some (.int .i64 drift) := Blk.cell hb4b 5; have m6 : w4.cell? ⟨b, 6, none⟩ = some (.int .i64 near) := Blk.cell hb4b 6; have f0 := Blk.free hb4b 0; have f1 := Blk.free hb4b 1; have f2 := Blk.free hb4b 2; have f3 := Blk.free hb4b 3; have f4 := Blk.free hb4b 4; have f5 := Blk.free hb4b 5; have f6 := Blk.free hb4b 6)
  all_goals
    go_wp2_with fail
    go_end0
    have hx : Blk w4 b 36 #[.int .i64 kp, .int .i64 ki, .int .i64 step, .int .i64 st, .int .i64 freq, .int .i64 drift, .int .i64 near] := hb4b
    have hy := blk7 hx (.int .i64 kp) (.int .i64 ki) (.int .i64 step) (.int .i64 0) (.int .i64 0) (.int .i64 0) (.int .i64 0)
    exact ⟨rfl, hy, gb7 (gb_any (gb_undrew hg4)) _ _ _ _ _ _ _⟩
end Go.Proofs.Ytjbkffhbgcoliaa
