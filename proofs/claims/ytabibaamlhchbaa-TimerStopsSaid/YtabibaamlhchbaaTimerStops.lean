/- The walk of TimerStops. -/
import Derived.Test.YtabibaamlhchbaaTimer
namespace Go.Proofs.Ytabibaamlhchbaa
open Go.RowKit

theorem timerStops_walk (a0 : Int) (a1 : Int) (a2 : Int) (_ : (Lit.int .i64 a0).wf = true) (_ : (Lit.int .i64 a1).wf = true) (_ : (Lit.int .i64 a2).wf = true) (w : World) :
    Calls Try.prog 9 #[.int .i64 a0, .int .i64 a1, .int .i64 a2] w fun e w' => e = .returned (.bool true) ∧ Below w.heap.size w w' := by
  have p0 := Int.emod_nonneg a0 (b := 100) (by omega)
  have p1 := Int.emod_lt_of_pos a0 (b := 100) (by omega)
  have r0 := Int.emod_nonneg a2 (b := 50) (by omega)
  have r1 := Int.emod_lt_of_pos a2 (b := 50) (by omega)
  go_enter Try.func9, Try.ntmps9
  go_wp2_with fail
  refine (place_any _ _ _ (by omega) (by omega)).mono ?_
  rintro e w1 ⟨rfl, rfl⟩
  generalize a0 % 100 = p at *
  go_wp2_with fail
  have q0 := Int.emod_nonneg a1 (b := 2 + p - 1) (by omega)
  have q1 := Int.emod_lt_of_pos a1 (b := 2 + p - 1) (by omega)
  refine (place_any _ _ _ (by omega) (by omega)).mono ?_
  rintro e w1 ⟨rfl, rfl⟩
  generalize a1 % (2 + p - 1) = q at *
  go_wp2_with fail
  refine (new_any _).mono ?_
  rintro e w1 ⟨rfl, hb1, hg1⟩
  go_wp2_with fail
  refine (start_any _ _ _ _ hb1).mono ?_
  rintro e w3 ⟨rfl, hb3, hg3⟩
  have g3 := gb_young hg1 hg3 (Nat.le_refl _)
  clear hg1 hg3 hb1
  have e3 : cutN (2 + p) = 2 + p := by unfold cutN; omega
  rw [e3] at hb3
  clear e3
  go_wp2_with fail
  go_loopw [10] (fun i wr => ∃ j : Int, i = .int .i64 j ∧ 0 ≤ j ∧ j ≤ q ∧ TimerAt wr w.heap.size (2 + p - j) ∧ w.grownBy wr none) (fun i _ => (q + 1 - intOf i).toNat)
  case atStart => exact ⟨0, rfl, by omega, by omega, by simpa using hb3, g3⟩
  case round =>
    obtain ⟨j, rfl, hj0, hj1, hb, hg⟩ := hrel
    clear hb3 g3
    go_wp2_with fail
    · have : j < q := by assumption
      refine (tick_more _ _ _ hb (by omega) (by omega)).mono ?_
      rintro e w4 ⟨rfl, hb4, hg4⟩
      have g4 := gb_young hg hg4 (Nat.le_refl _)
      clear hg hg4 hb
      rw [show 2 + p - j - 1 = 2 + p - (j + 1) from by omega] at hb4
      go_wp2
      exact ⟨⟨j + 1, rfl, by omega, by omega, hb4, g4⟩, by simp [intOf]; omega⟩
    · refine (stop_any _ _ _ hb).mono ?_
      rintro e w4 ⟨rfl, hb4, hg4⟩
      have g4 := gb_young hg hg4 (Nat.le_refl _)
      clear hg hg4 hb
      go_wp2_with fail
      go_loopw [11] (fun i wr => ∃ j : Int, i = .int .i64 j ∧ 0 ≤ j ∧ j ≤ 5 ∧ TimerAt wr w.heap.size 0 ∧ w.grownBy wr none) (fun i _ => (6 - intOf i).toNat)
      case atStart => exact ⟨0, rfl, by omega, by omega, hb4, g4⟩
      case round =>
        obtain ⟨i, rfl, hi0, hi1, hb, hg⟩ := hrel
        clear hb4 g4
        go_wp2_with fail
        · have : i < 5 := by assumption
          refine (tick_stopped _ _ hb).mono ?_
          rintro e w4 ⟨rfl, hb4, hg4⟩
          have g4 := gb_young hg hg4 (Nat.le_refl _)
          clear hg hg4 hb
          go_wp2_with fail
          refine (left_any _ _ _ hb4).mono ?_
          rintro e w5 ⟨rfl, rfl⟩
          go_wp2
          exact ⟨⟨i + 1, rfl, by omega, by omega, hb4, g4⟩, by simp [intOf]; omega⟩
        · refine (place_any _ _ _ (by omega) (by omega)).mono ?_
          rintro e w1 ⟨rfl, rfl⟩
          generalize a2 % 50 = r at *
          go_wp2_with fail
          refine (start_any _ _ _ _ hb).mono ?_
          rintro e w3 ⟨rfl, hb3, hg3⟩
          have g3 := gb_young hg hg3 (Nat.le_refl _)
          clear hg hg3 hb
          go_wp2_with fail
          refine (start_any _ _ _ _ hb3).mono ?_
          rintro e w4 ⟨rfl, hb4, hg4⟩
          have g4 := gb_young g3 hg4 (Nat.le_refl _)
          clear g3 hg4 hb3
          have e3 : cutN (1 + r) = 1 + r := by unfold cutN; omega
          rw [e3] at hb4
          clear e3
          go_wp2_with fail
          go_loopw [13] (fun i wr => ∃ j : Int, i = .int .i64 j ∧ 1 ≤ j ∧ j ≤ r + 2 ∧ TimerAt wr w.heap.size (r + 2 - j) ∧ w.grownBy wr none) (fun i _ => (r + 3 - intOf i).toNat)
          case atStart => exact ⟨1, rfl, by omega, by omega, by rw [show r + 2 - 1 = 1 + r from by omega]; exact hb4, g4⟩
          case round =>
            obtain ⟨l, rfl, hl0, hl1, hb, hg⟩ := hrel
            clear hb4 g4
            go_wp2_with fail
            · have : l ≤ 1 + r := by assumption
              by_cases hl : l = r + 1
              · subst hl
                rw [show r + 2 - (r + 1) = (1 : Int) from by omega] at hb
                refine (tick_last _ _ hb).mono ?_
                rintro e w4 ⟨rfl, hb4, hg4⟩
                have g4 := gb_young hg hg4 (Nat.le_refl _)
                clear hg hg4 hb
                have t1 : (r + 1 == 1 + r) = true := by rw [beq_iff_eq]; omega
                go_wp2
                exact ⟨⟨r + 1 + 1, rfl, by omega, by omega, by rw [show r + 2 - (r + 1 + 1) = (0 : Int) from by omega]; exact hb4, g4⟩, by simp [intOf]; omega⟩
              · refine (tick_more _ _ _ hb (by omega) (by omega)).mono ?_
                rintro e w4 ⟨rfl, hb4, hg4⟩
                have g4 := gb_young hg hg4 (Nat.le_refl _)
                clear hg hg4 hb
                have t1 : (l == 1 + r) = false := by rw [beq_eq_false_iff_ne]; omega
                rw [show r + 2 - l - 1 = r + 2 - (l + 1) from by omega] at hb4
                go_wp2
                exact ⟨⟨l + 1, rfl, by omega, by omega, hb4, g4⟩, by simp [intOf]; omega⟩
            · refine (awake_any _).mono ?_
              rintro e w4 ⟨rfl, hg4⟩
              go_wp2
              go_ret
              exact ⟨rfl, below_of_gb (gb_trans hg hg4)⟩
end Go.Proofs.Ytabibaamlhchbaa
