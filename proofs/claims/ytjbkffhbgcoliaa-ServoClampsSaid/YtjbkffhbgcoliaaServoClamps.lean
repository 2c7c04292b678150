/- The walk of ServoClamps. -/
import Derived.Test.YtjbkffhbgcoliaaSample
namespace Go.Proofs.Ytjbkffhbgcoliaa
open Go.RowKit

/-- Far ahead: steered down as far as may be; nothing is gathered. Far behind: up. -/
theorem clamp_far {k φ : Int} (h0 : 1000 ≤ k) (h1 : k ≤ 2000) (sg : Int) (hs : sg = 1 ∨ sg = -1) :
    Sv.by ⟨k, 300, 1000000000, 1, φ, 0, 0⟩ (sg * 900000000) = 0 ∧ decide (IsSet ⟨k, 300, 1000000000, 1, φ, 0, 0⟩ (sg * 900000000)) = false ∧
    Sv.fr ⟨k, 300, 1000000000, 1, φ, 0, 0⟩ (sg * 900000000) = -sg * 512000 ∧ Sv.next ⟨k, 300, 1000000000, 1, φ, 0, 0⟩ (sg * 900000000) = ⟨k, 300, 1000000000, 1, -sg * 512000, 0, 0⟩ := by
  have hn : ¬ IsSet ⟨k, 300, 1000000000, 1, φ, 0, 0⟩ (sg * 900000000) := by
    unfold IsSet
    dsimp only
    omega
  have hr : cutI (sg * 900000000) 512000000 = sg * 512000000 := by unfold cutI; omega
  have hd : Sv.d ⟨k, 300, 1000000000, 1, φ, 0, 0⟩ (sg * 900000000) = sg * 512000 := by
    unfold Sv.d
    rw [hr]
    dsimp only
    rcases hs with rfl | rfl <;> decide
  have hf : Sv.f ⟨k, 300, 1000000000, 1, φ, 0, 0⟩ (sg * 900000000) = -(sg * k * 512000) - sg * 512000 := by
    unfold Sv.f
    rw [hr, hd]
    dsimp only
    have : k * (sg * 512000000) = (sg * k * 512000) * 1000 := by
      rcases hs with rfl | rfl <;> omega
    rw [this, Int.mul_tdiv_cancel _ (by omega)]
  have hs' : Sv.steer ⟨k, 300, 1000000000, 1, φ, 0, 0⟩ (sg * 900000000) = ⟨k, 300, 1000000000, 1, -sg * 512000, 0, 0⟩ := by
    unfold Sv.steer
    rw [hf]
    have e1 : cutI (-(sg * k * 512000) - sg * 512000) 512000 = -sg * 512000 := by
      unfold cutI
      rcases hs with rfl | rfl <;> omega
    have e2 : -(sg * k * 512000) - sg * 512000 > 512000 ∨ -(sg * k * 512000) - sg * 512000 < -512000 := by
      rcases hs with rfl | rfl <;> omega
    have e3 : nearOf 0 (sg * 900000000) = 0 := by unfold nearOf; rw [if_pos (by omega)]
    have e4 : stOf 1 0 (sg * 900000000) = 1 := by unfold stOf; rw [if_neg (by omega), if_pos (by omega)]
    dsimp only
    rw [e1, if_pos e2, e3, e4]
  refine ⟨by unfold Sv.by; rw [if_neg hn], by simpa using hn, by unfold Sv.fr; rw [if_neg hn, hs'], by unfold Sv.next; rw [if_neg hn, hs']⟩

theorem clamp_ok {k φ : Int} (h0 : 1000 ≤ k) (h1 : k ≤ 2000) (h2 : -512000 ≤ φ) (h3 : φ ≤ 512000) (st : Int) (h4 : 0 ≤ st) (h5 : st ≤ 2) : Sv.Ok ⟨k, 300, 1000000000, st, φ, 0, 0⟩ 0 := by
  refine ⟨?_, ?_, ?_, ?_, ?_, ?_, ?_⟩ <;> dsimp only <;> omega

set_option maxRecDepth 100000 in
theorem servoClamps_walk (a0 : Int) (a1 : Int) (_ : (Lit.int .i64 a0).wf = true) (_ : (Lit.int .i64 a1).wf = true) (w : World) :
    Calls Try.prog 5 #[.int .i64 a0, .int .i64 a1] w fun e w' => e = .returned (.bool true) ∧ Below w.heap.size w w' := by
  have p0 := Int.emod_nonneg a0 (b := 1001) (by omega)
  have p1 := Int.emod_lt_of_pos a0 (b := 1001) (by omega)
  have q0 := Int.emod_nonneg a1 (b := 20) (by omega)
  have q1 := Int.emod_lt_of_pos a1 (b := 20) (by omega)
  go_enter Try.func5, Try.ntmps5
  go_wp2_with fail
  refine (place_any _ _ _ (by omega) (by omega)).mono ?_
  rintro e w1 ⟨rfl, rfl⟩
  generalize a0 % 1001 = p at *
  go_wp2_with fail
  have eN : Sv.new (1000 + p) 300 1000000000 = ⟨1000 + p, 300, 1000000000, 0, 0, 0, 0⟩ := by unfold Sv.new; rw [show clampI (1000 + p) 2000 = 1000 + p from by unfold clampI; omega]; rfl
  have hn := new_any (1000 + p) 300 1000000000 w
  rw [eN] at hn
  clear eN
  refine hn.mono ?_
  clear hn
  rintro e w1 ⟨rfl, hb1, hg1⟩
  go_wp2_with fail
  have hS := sample_is w.heap.size 5 _ w1 0 hb1 (clamp_ok (by omega) (by omega) (by omega) (by omega) _ (by omega) (by omega)) (by omega) 5 (by decide) (s' := ⟨1000 + p, 300, 1000000000, 1, 0, 0, 0⟩) (y := -5) (t := true) (f := 0)
    (by unfold Sv.by; rw [if_pos (.inl rfl)]) (by simp [IsSet]) (by unfold Sv.fr; rw [if_pos (.inl rfl)]) (by unfold Sv.next; rw [if_pos (.inl rfl)]; rfl)
  refine hS.mono ?_
  clear hS
  rintro e w2 ⟨rfl, hb2, hg2⟩
  have g2 := gb_young hg1 hg2 (Nat.le_refl _)
  clear hg1 hg2 hb1
  go_wp2_with fail
  go_loopw [7] (fun i wr => ∃ j φ : Int, i = .int .i64 j ∧ 0 ≤ j ∧ j ≤ 1 + a1 % 20 ∧ -512000 ≤ φ ∧ φ ≤ 512000 ∧ SvAt wr w.heap.size ⟨1000 + p, 300, 1000000000, 1, φ, 0, 0⟩ ∧ w.grownBy wr none) (fun i _ => (1 + a1 % 20 + 1 - intOf i).toNat)
  case atStart => exact ⟨0, 0, rfl, by omega, by omega, by omega, by omega, hb2, g2⟩
  case round =>
    obtain ⟨j, φ, rfl, hj0, hj1, hφ0, hφ1, hb, hg⟩ := hrel
    clear hb2 g2
    go_wp2_with fail
    refine (place_any _ _ _ (by omega) (by omega)).mono ?_
    rintro e w4 ⟨rfl, rfl⟩
    go_wp2_with fail
    · obtain ⟨c1, c2, c3, c4⟩ := clamp_far (k := 1000 + p) (φ := φ) (by omega) (by omega) 1 (.inl rfl)
      have hS := sample_is w.heap.size 900000000 _ wr 0 hb (clamp_ok (by omega) (by omega) (by omega) (by omega) _ (by omega) (by omega)) (by omega) (1 * 900000000) (by decide) c1 c2 c3 c4
      clear c1 c2 c3 c4
      refine hS.mono ?_
      clear hS
      rintro e w2 ⟨rfl, hb2, hg2⟩
      have g2 := gb_young hg hg2 (Nat.le_refl _)
      clear hg hg2 hb
      go_wp2_with fail
      refine (drift_any _ _ _ hb2).mono ?_
      rintro e w3 ⟨rfl, rfl⟩
      go_wp2
      exact ⟨⟨j + 1, -1 * 512000, rfl, by omega, by omega, by omega, by omega, hb2, g2⟩, by simp [intOf]; omega⟩
    · obtain ⟨c1, c2, c3, c4⟩ := clamp_far (k := 1000 + p) (φ := φ) (by omega) (by omega) (-1) (.inr rfl)
      have hS := sample_is w.heap.size (-900000000) _ wr 0 hb (clamp_ok (by omega) (by omega) (by omega) (by omega) _ (by omega) (by omega)) (by omega) (-1 * 900000000) (by decide) c1 c2 c3 c4
      clear c1 c2 c3 c4
      refine hS.mono ?_
      clear hS
      rintro e w2 ⟨rfl, hb2, hg2⟩
      have g2 := gb_young hg hg2 (Nat.le_refl _)
      clear hg hg2 hb
      go_wp2_with fail
      refine (drift_any _ _ _ hb2).mono ?_
      rintro e w3 ⟨rfl, rfl⟩
      go_wp2_with fail
      refine (state_any _ _ _ hb2).mono ?_
      rintro e w3 ⟨rfl, rfl⟩
      go_wp2_with fail
      refine (awake_any _).mono ?_
      rintro e w4 ⟨rfl, hg4⟩
      go_wp2
      go_ret
      exact ⟨rfl, below_of_gb (gb_trans g2 hg4)⟩
end Go.Proofs.Ytjbkffhbgcoliaa
