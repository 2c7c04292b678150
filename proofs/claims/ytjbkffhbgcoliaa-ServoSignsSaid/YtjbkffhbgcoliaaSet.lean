/- Sample, where the clock is set; Reset. -/
import Derived.Test.YtjbkffhbgcoliaaSv
namespace Go.Proofs.Ytjbkffhbgcoliaa
open Go.RowKit
attribute [local go_sem] max_two min_two max2_max min2_min

def IsSet (s : Sv) (o : Int) : Prop := s.st = 0 ∨ s.step = 0 ∨ s.step < o ∨ o < -s.step
def Sv.set (s : Sv) : Sv := { s with st := 1, near := 0 }

set_option maxRecDepth 100000 in
theorem sample_set (b : Nat) (off iv : Int) (s : Sv) (w : World) (hb : SvAt w b s) (h0 : 0 ≤ s.step) (h1 : s.step ≤ 1000000000) (hs : IsSet s (cutI off 4000000000000000)) :
    Calls Try.prog 11 #[.pointer (some ⟨b, 0, none⟩), .int .i64 off, .int .i64 iv] w fun e w' =>
      e = .returned (.tuple #[.int .i64 (-(cutI off 4000000000000000)), .bool true, .int .i64 s.freq]) ∧ SvAt w' b s.set ∧ w.grownBy w' (some b) := by
  obtain ⟨kp, ki, step, st, freq, drift, near⟩ := s
  have ho := cutI_bd off 4000000000000000 (by omega)
  have hc2 : w.cell? ⟨b, 2, none⟩ = some (.int .i64 step) := Blk.cell hb 2
  have hc3 : w.cell? ⟨b, 3, none⟩ = some (.int .i64 st) := Blk.cell hb 3
  have hc4 : w.cell? ⟨b, 4, none⟩ = some (.int .i64 freq) := Blk.cell hb 4
  have hc6 : w.cell? ⟨b, 6, none⟩ = some (.int .i64 near) := Blk.cell hb 6
  have hf3 : w.frozen? ⟨b, 3, none⟩ = false := Blk.free hb 3
  have hf6 : w.frozen? ⟨b, 6, none⟩ = false := Blk.free hb 6
  have hz := Blk.set (Blk.set hb 3 (.int .i64 1)) 6 (.int .i64 0)
  have hc4' : ((w.setCell ⟨b, 3, none⟩ (.int .i64 1)).setCell ⟨b, 6, none⟩ (.int .i64 0)).cell? ⟨b, 4, none⟩ = some (.int .i64 freq) := Blk.cell hz 4
  unfold IsSet at hs
  dsimp only at hs h0 h1
  dsimp only
  generalize hO : cutI off 4000000000000000 = o at *
  have HO := hide hO
  clear hO
  go_enter Try.func11, Try.ntmps11
  go_wp2_with fail
  refine wp_scope_fwd 0 rfl ?_
  go_wp2_with fail
  refine (cut_any _ _ _ (by omega) (by omega)).mono ?_
  rintro e w1 ⟨rfl, rfl⟩
  rw [HO.out]
  rcases (show (st = 0) ∨ (st ≠ 0 ∧ step = 0) ∨ (st ≠ 0 ∧ step ≠ 0 ∧ step < o) ∨ (st ≠ 0 ∧ step ≠ 0 ∧ o ≤ step ∧ o < -step) from by omega) with hx | ⟨hx, hy⟩ | ⟨hx, hy, hv⟩ | ⟨hx, hy, hv, hu⟩
  · have t1 : (st == 0) = true := by rw [beq_iff_eq]; exact hx
    clear hx hs
    go_wp2_with fail
    go_quiet (fail)
    go_wp2
    refine jump_ret ?_
    go_ret3
    exact ⟨rfl, hz.drewN _, gb_drewN (gb_set (gb_set (gb_refl _ _) _ _) _ _) _⟩
  · have t1 : (st == 0) = false := by rw [beq_eq_false_iff_ne]; exact hx
    have t2 : (step == 0) = true := by rw [beq_iff_eq]; exact hy
    clear hx hy hs
    go_wp2_with fail
    go_quiet (fail)
    go_wp2
    refine jump_ret ?_
    go_ret3
    exact ⟨rfl, hz.drewN _, gb_drewN (gb_set (gb_set (gb_refl _ _) _ _) _ _) _⟩
  · have t1 : (st == 0) = false := by rw [beq_eq_false_iff_ne]; exact hx
    have t2 : (step == 0) = false := by rw [beq_eq_false_iff_ne]; exact hy
    clear hx hy hs
    go_wp2_with fail
    go_quiet (fail)
    go_wp2
    refine jump_ret ?_
    go_ret3
    exact ⟨rfl, hz.drewN _, gb_drewN (gb_set (gb_set (gb_refl _ _) _ _) _ _) _⟩
  · have t1 : (st == 0) = false := by rw [beq_eq_false_iff_ne]; exact hx
    have t2 : (step == 0) = false := by rw [beq_eq_false_iff_ne]; exact hy
    clear hx hy hs
    go_wp2_with fail
    go_quiet (fail)
    go_wp2
    refine jump_ret ?_
    go_ret3
    exact ⟨rfl, hz.drewN _, gb_drewN (gb_set (gb_set (gb_refl _ _) _ _) _ _) _⟩
end Go.Proofs.Ytjbkffhbgcoliaa
