/- Sample, where the clock is steered: case 2 of 3. -/
import Derived.Test.YtjbkffhbgcoliaaSteerW
namespace Go.Proofs.Ytjbkffhbgcoliaa
open Go.RowKit
attribute [local go_sem] max_two min_two max2_max min2_min

set_option maxHeartbeats 8000000 in
set_option maxRecDepth 100000 in
theorem sample_steer2 (b : Nat) (off : Int) (s : Sv) (w : World) (K : Int) (hb : SvAt w b s) (hk : s.Ok K) (hK : K ≤ 1000000) (hs : ¬ IsSet s (cutI off 4000000000000000)) (hff : (s.f (cutI off 4000000000000000)) < -512000) :
    Calls Try.prog 11 #[.pointer (some ⟨b, 0, none⟩), .int .i64 off, .int .i64 1000000000] w fun e w' =>
      e = .returned (.tuple #[.int .i64 0, .bool false, .int .i64 (s.steer (cutI off 4000000000000000)).freq]) ∧ SvAt w' b (s.steer (cutI off 4000000000000000)) ∧ w.grownBy w' (some b) := by
  obtain ⟨kp, ki, step, st, freq, drift, near⟩ := s
  obtain ⟨⟨kp0, kp1⟩, ⟨ki0, ki1⟩, ⟨step0, step1⟩, ⟨freq0, freq1⟩, ⟨drift0, drift1⟩, ⟨near0, near1⟩, ⟨st0, st1⟩⟩ := hk
  dsimp only at *
  have hc0 : w.cell? ⟨b, 0, none⟩ = some (.int .i64 kp) := Blk.cell hb 0
  have hc1 : w.cell? ⟨b, 1, none⟩ = some (.int .i64 ki) := Blk.cell hb 1
  have hc2 : w.cell? ⟨b, 2, none⟩ = some (.int .i64 step) := Blk.cell hb 2
  have hc3 : w.cell? ⟨b, 3, none⟩ = some (.int .i64 st) := Blk.cell hb 3
  have hc4 : w.cell? ⟨b, 4, none⟩ = some (.int .i64 freq) := Blk.cell hb 4
  have hc5 : w.cell? ⟨b, 5, none⟩ = some (.int .i64 drift) := Blk.cell hb 5
  have hc6 : w.cell? ⟨b, 6, none⟩ = some (.int .i64 near) := Blk.cell hb 6
  have hf3 : w.frozen? ⟨b, 3, none⟩ = false := Blk.free hb 3
  have hf4 : w.frozen? ⟨b, 4, none⟩ = false := Blk.free hb 4
  have hf5 : w.frozen? ⟨b, 5, none⟩ = false := Blk.free hb 5
  have hf6 : w.frozen? ⟨b, 6, none⟩ = false := Blk.free hb 6
  have ho := cutI_bd off 4000000000000000 (by omega)
  generalize hO : cutI off 4000000000000000 = o at *
  have HO := hide hO
  clear hO
  unfold IsSet at hs
  dsimp only at hs
  have hst : st ≠ 0 := fun h => hs (.inl h)
  have hstep : step ≠ 0 := fun h => hs (.inr (.inl h))
  have ho1 : o ≤ step := by omega
  have ho0 : -step ≤ o := by omega
  clear hs ho
  have t1 : (st == 0) = false := by rw [beq_eq_false_iff_ne]; exact hst
  have t2 : (step == 0) = false := by rw [beq_eq_false_iff_ne]; exact hstep
  clear hst hstep
  have hr := cutI_bd o 512000000 (by omega)
  have HD0 : (⟨kp, ki, step, st, freq, drift, near⟩ : Sv).d o = cutI (drift + (ki * cutI o 512000000).tdiv 1000) 512000 := rfl
  have HF0 : (⟨kp, ki, step, st, freq, drift, near⟩ : Sv).f o = -((kp * cutI o 512000000).tdiv 1000) - (⟨kp, ki, step, st, freq, drift, near⟩ : Sv).d o := rfl
  have hki := mul_bd ki0 ki1 hr.1 hr.2 (by omega)
  have hkp := mul_bd kp0 kp1 hr.1 hr.2 (by omega)
  have hki' := tdiv_bd (B := 1024000000) (by omega) (by omega : ki * cutI o 512000000 ≤ 1024000000 * 1000)
  have hkp' := tdiv_bd (B := 1024000000) (by omega) (by omega : kp * cutI o 512000000 ≤ 1024000000 * 1000)
  have hd := cutI_bd (drift + (ki * cutI o 512000000).tdiv 1000) 512000 (by omega)
  rw [← HD0] at hd
  generalize hfe : (⟨kp, ki, step, st, freq, drift, near⟩ : Sv).f o = f at *
  generalize hde : (⟨kp, ki, step, st, freq, drift, near⟩ : Sv).d o = d at *
  have HFE := hide hfe
  have HDE := hide hde
  clear hfe hde
  generalize hR : cutI o 512000000 = r at *
  have HR := hide hR
  have HD := hide HD0.symm
  have HF := hide HF0.symm
  clear hR HD0 HF0
  have w1_ : IntKind.i64.wrap (ki * r) = ki * r := IntWalk.i64_in _ (by omega)
  have w2_ : IntKind.i64.wrap (drift + (ki * r).tdiv 1000) = drift + (ki * r).tdiv 1000 := IntWalk.i64_in _ (by omega)
  have hiv : max 1 (min 1000000000 16000000000) = (1000000000 : Int) := by omega
  have hdiv : (o * 1000000000).tdiv 1000000000 = o := Int.mul_tdiv_cancel _ (by omega)
  go_enter Try.func11, Try.ntmps11
  go_wp2_with fail
  refine wp_scope_fwd 0 rfl ?_
  go_wp2_with fail
  refine (cut_any _ _ _ (by omega) (by omega)).mono ?_
  rintro e w1 ⟨rfl, rfl⟩
  rw [HO.out]
  go_wp2_with fail
  clear hiv hdiv
  refine (cut_any _ _ _ (by omega) (by omega)).mono ?_
  rintro e w1 ⟨rfl, rfl⟩
  rw [HR.out]
  go_wp2_with fail
  go_quiet ((go_at_call 17; exact quiet_left (cut_any _ _ _ (by omega) (by omega))))
  rw [HD.out]
  clear w1_ w2_ hki hki' HR HO HD
  have hF := HF.out
  clear HF
  have hb2 : Blk (w.drewN nq) b 36 _ := hb.drewN nq
  have hg2 : w.grownBy (w.drewN nq) (some b) := gb_drewN (gb_refl _ _) nq
  clear hc0 hc1 hc2 hc3 hc4 hc5 hc6 hf3 hf4 hf5 hf6 hb
  generalize w.drewN nq = w2 at hb2 hg2 ⊢
  have hc0 : w2.cell? ⟨b, 0, none⟩ = some (.int .i64 kp) := Blk.cell hb2 0
  have hc3 : w2.cell? ⟨b, 3, none⟩ = some (.int .i64 st) := Blk.cell hb2 3
  have hc4 : w2.cell? ⟨b, 4, none⟩ = some (.int .i64 freq) := Blk.cell hb2 4
  have hc5 : w2.cell? ⟨b, 5, none⟩ = some (.int .i64 drift) := Blk.cell hb2 5
  have hc6 : w2.cell? ⟨b, 6, none⟩ = some (.int .i64 near) := Blk.cell hb2 6
  have hf3 : w2.frozen? ⟨b, 3, none⟩ = false := Blk.free hb2 3
  have hf4 : w2.frozen? ⟨b, 4, none⟩ = false := Blk.free hb2 4
  have hf5 : w2.frozen? ⟨b, 5, none⟩ = false := Blk.free hb2 5
  have hf6 : w2.frozen? ⟨b, 6, none⟩ = false := Blk.free hb2 6
  have hv : f ≤ 512000 := by omega
  go_wp2_with fail
  clear hF hkp hkp'
  refine (cut_any _ _ _ (by omega) (by omega)).mono ?_
  rintro e w1 ⟨rfl, rfl⟩
  go_wp2_with fail
  go_step3
  refine jump_goto ?_
  rcases (show (-100 ≤ o ∧ o ≤ 100 ∧ 3 ≤ near + 1) ∨ (-100 ≤ o ∧ o ≤ 100 ∧ near + 1 < 3) ∨ (100 < o ∧ o ≤ 1000) ∨ (1000 < o) ∨ (o < -100 ∧ -1000 ≤ o) ∨ (o < -1000) from by omega) with ⟨ha, hb', hn⟩ | ⟨ha, hb', hn⟩ | ⟨ha, hb'⟩ | ha | ⟨ha, hb'⟩ | ha
  · have e1 : nearOf near o = near + 1 := by unfold nearOf; rw [if_neg (by omega)]
    have e2 : stOf st (near + 1) o = 2 := by unfold stOf; rw [if_pos (by omega)]
    have e3 : (⟨kp, ki, step, st, freq, drift, near⟩ : Sv).steer o = ⟨kp, ki, step, 2, cutI f 512000, drift, near + 1⟩ := by
      simp only [Sv.steer, HFE.out, HDE.out, e1, e2]
      rw [if_pos (by omega)]
    have E3 := hide e3
    clear e1 e2 e3
    go_wp2_with fail
    go_quiet (fail)
    go_wp2
    refine no_ret ?_
    go_ret3
    rw [E3.out]
    exact ⟨rfl, Blk.drewN (Blk.set (Blk.set (Blk.set hb2 4 (.int .i64 (cutI f 512000))) 6 (.int .i64 (near + 1))) 3 (.int .i64 2)) _, gb_drewN (gb_set (gb_set (gb_set hg2 _ _) _ _) _ _) _⟩
  · have e1 : nearOf near o = near + 1 := by unfold nearOf; rw [if_neg (by omega)]
    have e2 : stOf st (near + 1) o = st := by unfold stOf; rw [if_neg (by omega), if_neg (by omega)]
    have e3 : (⟨kp, ki, step, st, freq, drift, near⟩ : Sv).steer o = ⟨kp, ki, step, st, cutI f 512000, drift, near + 1⟩ := by
      simp only [Sv.steer, HFE.out, HDE.out, e1, e2]
      rw [if_pos (by omega)]
    have E3 := hide e3
    clear e1 e2 e3
    go_wp2_with fail
    go_quiet (fail)
    go_wp2
    refine no_ret ?_
    go_ret3
    rw [E3.out]
    exact ⟨rfl, Blk.drewN (Blk.set (Blk.set hb2 4 (.int .i64 (cutI f 512000))) 6 (.int .i64 (near + 1))) _, gb_drewN (gb_set (gb_set hg2 _ _) _ _) _⟩
  · have e1 : nearOf near o = 0 := by unfold nearOf; rw [if_pos (by omega)]
    have e2 : stOf st (0) o = st := by unfold stOf; rw [if_neg (by omega), if_neg (by omega)]
    have e3 : (⟨kp, ki, step, st, freq, drift, near⟩ : Sv).steer o = ⟨kp, ki, step, st, cutI f 512000, drift, 0⟩ := by
      simp only [Sv.steer, HFE.out, HDE.out, e1, e2]
      rw [if_pos (by omega)]
    have E3 := hide e3
    clear e1 e2 e3
    have hz6 : (((w2.setCell ⟨b, 4, none⟩ (.int .i64 (cutI f 512000))).setCell ⟨b, 6, none⟩ (.int .i64 (near + 1))).setCell ⟨b, 6, none⟩ (.int .i64 0)).cell? ⟨b, 6, none⟩ = some (.int .i64 0) := Blk.cell (Blk.set (Blk.set (Blk.set hb2 4 (.int .i64 (cutI f 512000))) 6 (.int .i64 (near + 1))) 6 (.int .i64 0)) 6
    go_wp2_with fail
    go_quiet (fail)
    go_wp2
    refine no_ret ?_
    go_ret3
    rw [E3.out]
    exact ⟨rfl, Blk.drewN (Blk.set (Blk.set (Blk.set hb2 4 (.int .i64 (cutI f 512000))) 6 (.int .i64 (near + 1))) 6 (.int .i64 0)) _, gb_drewN (gb_set (gb_set (gb_set hg2 _ _) _ _) _ _) _⟩
  · have e1 : nearOf near o = 0 := by unfold nearOf; rw [if_pos (by omega)]
    have e2 : stOf st (0) o = 1 := by unfold stOf; rw [if_neg (by omega), if_pos (by omega)]
    have e3 : (⟨kp, ki, step, st, freq, drift, near⟩ : Sv).steer o = ⟨kp, ki, step, 1, cutI f 512000, drift, 0⟩ := by
      simp only [Sv.steer, HFE.out, HDE.out, e1, e2]
      rw [if_pos (by omega)]
    have E3 := hide e3
    clear e1 e2 e3
    have hz6 : (((w2.setCell ⟨b, 4, none⟩ (.int .i64 (cutI f 512000))).setCell ⟨b, 6, none⟩ (.int .i64 (near + 1))).setCell ⟨b, 6, none⟩ (.int .i64 0)).cell? ⟨b, 6, none⟩ = some (.int .i64 0) := Blk.cell (Blk.set (Blk.set (Blk.set hb2 4 (.int .i64 (cutI f 512000))) 6 (.int .i64 (near + 1))) 6 (.int .i64 0)) 6
    go_wp2_with fail
    go_quiet (fail)
    go_wp2
    refine no_ret ?_
    go_ret3
    rw [E3.out]
    exact ⟨rfl, Blk.drewN (Blk.set (Blk.set (Blk.set (Blk.set hb2 4 (.int .i64 (cutI f 512000))) 6 (.int .i64 (near + 1))) 6 (.int .i64 0)) 3 (.int .i64 1)) _, gb_drewN (gb_set (gb_set (gb_set (gb_set hg2 _ _) _ _) _ _) _ _) _⟩
  · have e1 : nearOf near o = 0 := by unfold nearOf; rw [if_pos (by omega)]
    have e2 : stOf st (0) o = st := by unfold stOf; rw [if_neg (by omega), if_neg (by omega)]
    have e3 : (⟨kp, ki, step, st, freq, drift, near⟩ : Sv).steer o = ⟨kp, ki, step, st, cutI f 512000, drift, 0⟩ := by
      simp only [Sv.steer, HFE.out, HDE.out, e1, e2]
      rw [if_pos (by omega)]
    have E3 := hide e3
    clear e1 e2 e3
    have hz6 : (((w2.setCell ⟨b, 4, none⟩ (.int .i64 (cutI f 512000))).setCell ⟨b, 6, none⟩ (.int .i64 (near + 1))).setCell ⟨b, 6, none⟩ (.int .i64 0)).cell? ⟨b, 6, none⟩ = some (.int .i64 0) := Blk.cell (Blk.set (Blk.set (Blk.set hb2 4 (.int .i64 (cutI f 512000))) 6 (.int .i64 (near + 1))) 6 (.int .i64 0)) 6
    go_wp2_with fail
    go_quiet (fail)
    go_wp2
    refine no_ret ?_
    go_ret3
    rw [E3.out]
    exact ⟨rfl, Blk.drewN (Blk.set (Blk.set (Blk.set hb2 4 (.int .i64 (cutI f 512000))) 6 (.int .i64 (near + 1))) 6 (.int .i64 0)) _, gb_drewN (gb_set (gb_set (gb_set hg2 _ _) _ _) _ _) _⟩
  · have e1 : nearOf near o = 0 := by unfold nearOf; rw [if_pos (by omega)]
    have e2 : stOf st (0) o = 1 := by unfold stOf; rw [if_neg (by omega), if_pos (by omega)]
    have e3 : (⟨kp, ki, step, st, freq, drift, near⟩ : Sv).steer o = ⟨kp, ki, step, 1, cutI f 512000, drift, 0⟩ := by
      simp only [Sv.steer, HFE.out, HDE.out, e1, e2]
      rw [if_pos (by omega)]
    have E3 := hide e3
    clear e1 e2 e3
    have hz6 : (((w2.setCell ⟨b, 4, none⟩ (.int .i64 (cutI f 512000))).setCell ⟨b, 6, none⟩ (.int .i64 (near + 1))).setCell ⟨b, 6, none⟩ (.int .i64 0)).cell? ⟨b, 6, none⟩ = some (.int .i64 0) := Blk.cell (Blk.set (Blk.set (Blk.set hb2 4 (.int .i64 (cutI f 512000))) 6 (.int .i64 (near + 1))) 6 (.int .i64 0)) 6
    go_wp2_with fail
    go_quiet (fail)
    go_wp2
    refine no_ret ?_
    go_ret3
    rw [E3.out]
    exact ⟨rfl, Blk.drewN (Blk.set (Blk.set (Blk.set (Blk.set hb2 4 (.int .i64 (cutI f 512000))) 6 (.int .i64 (near + 1))) 6 (.int .i64 0)) 3 (.int .i64 1)) _, gb_drewN (gb_set (gb_set (gb_set (gb_set hg2 _ _) _ _) _ _) _ _) _⟩
end Go.Proofs.Ytjbkffhbgcoliaa
