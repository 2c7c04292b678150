/- The walk of PortTable. -/
import Derived.Test.YtekgkflabcbobaaPortAll
namespace Go.Proofs.Ytekgkflabcbobaa
open Go.RowKit

set_option maxHeartbeats 1000000 in
set_option maxRecDepth 100000 in
theorem portTable_walk (w : World) :
    Calls Try.prog 5 #[] w fun e w' => e = .returned (.bool true) ∧ Below w.heap.size w w' := by
  go_enter Try.func5, Try.ntmps5
  go_wp2_with fail
  go_loopw [1] (fun x wr => ∃ s : Int, x = .int .i64 s ∧ 0 ≤ s ∧ s ≤ 11 ∧ w.grownBy wr none) (fun x _ => (11 - intOf x).toNat)
  case atStart => exact ⟨0, rfl, by omega, by omega, gb_refl _ _⟩
  case round =>
    obtain ⟨s, rfl, hs0, hs1, hg⟩ := hrel
    by_cases hs : s ≤ 10
    · have t0 : decide (s ≤ 10) = true := by simpa using hs
      go_wp2_with fail
      obtain ⟨wo, rfl⟩ : ∃ wo : World, wo = wr := ⟨_, rfl⟩
      go_loopw [2] (fun x wr => ∃ d : Int, x = .int .i64 d ∧ 0 ≤ d ∧ d ≤ 10 ∧ w.grownBy wr none) (fun x _ => (10 - intOf x).toNat)
      case atStart => exact ⟨0, rfl, by omega, by omega, hg⟩
      case round =>
        clear hg
        obtain ⟨d, rfl, hd0, hd1, hg⟩ := hrel
        by_cases hd : d ≤ 9
        · go_wp2_with fail
          refine (all_any _ _ _ _ _ _).mono ?_
          rintro e w1 ⟨rfl, hg1⟩
          go_wp2_with fail
          refine (all_any _ _ _ _ _ _).mono ?_
          rintro e w2 ⟨rfl, hg2⟩
          go_wp2_with fail
          refine (all_any _ _ _ _ _ _).mono ?_
          rintro e w3 ⟨rfl, hg3⟩
          go_wp2_with fail
          refine (all_any _ _ _ _ _ _).mono ?_
          rintro e w4 ⟨rfl, hg4⟩
          go_wp2
          exact ⟨⟨d + 1, rfl, by omega, by omega, gb_trans (gb_trans (gb_trans (gb_trans hg hg1) hg2) hg3) hg4⟩, by simp [intOf]; omega⟩
        · go_wp2_with fail
          exact ⟨⟨s + 1, rfl, by omega, by omega, hg⟩, by simp [intOf]; omega⟩
    · go_wp2_with fail
      refine (awake_any _).mono ?_
      rintro e w3 ⟨rfl, hg3⟩
      go_wp2
      go_ret
      exact ⟨rfl, below_of_gb (gb_trans hg hg3)⟩
end Go.Proofs.Ytekgkflabcbobaa
