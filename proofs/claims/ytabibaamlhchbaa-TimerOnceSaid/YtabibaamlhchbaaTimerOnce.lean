/- The walk of TimerOnce. -/
import Derived.Test.YtabibaamlhchbaaTimer
namespace Go.Proofs.Ytabibaamlhchbaa
open Go.RowKit

theorem timerOnce_walk (a0 : Int) (a1 : Int) (_ : (Lit.int .i64 a0).wf = true) (_ : (Lit.int .i64 a1).wf = true) (w : World) :
    Calls Try.prog 7 #[.int .i64 a0, .int .i64 a1] w fun e w' => e = .returned (.bool true) ∧ Below w.heap.size w w' := by
  have p0 := Int.emod_nonneg a0 (b := 300) (by omega)
  have p1 := Int.emod_lt_of_pos a0 (b := 300) (by omega)
  have q0 := Int.emod_nonneg a1 (b := 20) (by omega)
  have q1 := Int.emod_lt_of_pos a1 (b := 20) (by omega)
  go_enter Try.func7, Try.ntmps7
  go_wp2_with fail
  refine (place_any _ _ _ (by omega) (by omega)).mono ?_
  rintro e w1 ⟨rfl, rfl⟩
  generalize a0 % 300 = p at *
  go_wp2_with fail
  refine (new_any _).mono ?_
  rintro e w1 ⟨rfl, hb1, hg1⟩
  go_wp2_with fail
  refine (left_any _ _ _ hb1).mono ?_
  rintro e w2 ⟨rfl, rfl⟩
  go_wp2_with fail
  refine (tick_stopped _ _ hb1).mono ?_
  rintro e w2 ⟨rfl, hb2, hg2⟩
  have g2 := gb_young hg1 hg2 (Nat.le_refl _)
  clear hg1 hg2 hb1
  go_wp2_with fail
  refine (start_any _ _ _ _ hb2).mono ?_
  rintro e w3 ⟨rfl, hb3, hg3⟩
  have g3 := gb_young g2 hg3 (Nat.le_refl _)
  clear g2 hg3 hb2
  have e3 : cutN (1 + p) = 1 + p := by unfold cutN; omega
  rw [e3] at hb3
  clear e3
  go_wp2_with fail
  go_loopw [7] (fun i wr => ∃ j m : Int, i = .int .i64 j ∧ 1 ≤ j ∧ j ≤ p + a1 % 20 + 2 ∧ TimerAt wr w.heap.size m ∧ w.grownBy wr none ∧ (m = p + 2 - j ∧ j ≤ p + 1 ∨ m = 0 ∧ p + 1 < j)) (fun i _ => (p + a1 % 20 + 3 - intOf i).toNat)
  case atStart => exact ⟨1, 1 + p, rfl, by omega, by omega, hb3, g3, .inl ⟨by omega, by omega⟩⟩
  case round =>
    obtain ⟨j, m, rfl, hj0, hj1, hb, hg, hm⟩ := hrel
    clear hb3 g3
    have HM := hide hm
    clear hm
    go_wp2_with fail
    refine (place_any _ _ _ (by omega) (by omega)).mono ?_
    rintro e w4 ⟨rfl, rfl⟩
    go_wp2_with fail
    · rcases HM.out with ⟨rfl, hle⟩ | ⟨rfl, hgt⟩
      · clear HM
        by_cases hj : j = p + 1
        · subst hj
          rw [show p + 2 - (p + 1) = (1 : Int) from by omega] at hb
          refine (tick_last _ _ hb).mono ?_
          rintro e w4 ⟨rfl, hb4, hg4⟩
          have g4 := gb_young hg hg4 (Nat.le_refl _)
          clear hg hg4 hb
          have t1 : (p + 1 == 1 + p) = true := by rw [beq_iff_eq]; omega
          go_wp2_with fail
          refine (left_any _ _ _ hb4).mono ?_
          rintro e w5 ⟨rfl, rfl⟩
          go_wp2
          exact ⟨⟨p + 1 + 1, 0, rfl, by omega, by omega, hb4, g4, .inr ⟨rfl, by omega⟩⟩, by simp [intOf]; omega⟩
        · refine (tick_more _ _ _ hb (by omega) (by omega)).mono ?_
          rintro e w4 ⟨rfl, hb4, hg4⟩
          have g4 := gb_young hg hg4 (Nat.le_refl _)
          clear hg hg4 hb
          have t1 : (j == 1 + p) = false := by rw [beq_eq_false_iff_ne]; omega
          go_wp2_with fail
          refine (left_any _ _ _ hb4).mono ?_
          rintro e w5 ⟨rfl, rfl⟩
          have t2 : 0 < 1 + p - j := by omega
          have t3 : (p + 2 - j - 1 == 1 + p - j) = true := by rw [beq_iff_eq]; omega
          go_wp2
          exact ⟨⟨j + 1, p + 2 - j - 1, rfl, by omega, by omega, hb4, g4, .inl ⟨by omega, by omega⟩⟩, by simp [intOf]; omega⟩
      · refine (tick_stopped _ _ hb).mono ?_
        rintro e w4 ⟨rfl, hb4, hg4⟩
        have g4 := gb_young hg hg4 (Nat.le_refl _)
        clear hg hg4 hb
        have t1 : (j == 1 + p) = false := by rw [beq_eq_false_iff_ne]; omega
        go_wp2_with fail
        refine (left_any _ _ _ hb4).mono ?_
        rintro e w5 ⟨rfl, rfl⟩
        go_wp2
        exact ⟨⟨j + 1, 0, rfl, by omega, by omega, hb4, g4, .inr ⟨rfl, by omega⟩⟩, by simp [intOf]; omega⟩
    · refine (awake_any _).mono ?_
      rintro e w4 ⟨rfl, hg4⟩
      go_wp2
      go_ret
      exact ⟨rfl, below_of_gb (gb_trans hg hg4)⟩
end Go.Proofs.Ytabibaamlhchbaa
