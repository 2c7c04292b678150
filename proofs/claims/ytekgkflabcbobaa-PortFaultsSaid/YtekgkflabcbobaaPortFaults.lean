/- The walk of PortFaults. -/
import Derived.Test.YtekgkflabcbobaaPtAwake
namespace Go.Proofs.Ytekgkflabcbobaa
open Go.RowKit

set_option maxHeartbeats 1000000 in
set_option maxRecDepth 100000 in
theorem portFaults_walk (a0 : Option Addr) (len0 cap0 : Nat) (z0 : List Int) (a1 : Bool) (w : World) (w0 : IsRow .i64 w a0 len0 cap0 z0) :
    Calls Try.prog 3 #[.slice a0 len0 cap0, .bool a1] w fun e w' => e = .returned (.bool true) ∧ Below w.heap.size w w' := by
  have l0 := row_len w0
  go_enter Try.func3, Try.ntmps3
  go_wp2_with fail
  go_loopw [5, 6] (fun x i wr => ∃ (k : Nat) (s : Int), i = .int .i64 k ∧ x = .int .i64 s ∧ k ≤ len0 ∧ k ≤ 100 ∧ w.grownBy wr none) (fun _ i _ => 100 - (intOf i).toNat)
  case atStart => exact ⟨0, 1, rfl, rfl, by omega, by omega, gb_refl _ _⟩
  case round =>
    obtain ⟨k, s, rfl, rfl, hk0, hk1, hg⟩ := hrel
    by_cases hkk : k < len0 ∧ k < 100
    · obtain ⟨hk, hk2⟩ := hkk
      obtain ⟨b, off, rfl, hz, hbw, hrow⟩ := row_open w0 (by omega)
      have hc := ((hrow.kept hg) k (by omega)).1
      go_wp2_with fail
      refine (next_any _ _ _ _).mono ?_
      rintro e w1 ⟨rfl, rfl⟩
      clear hc
      go_wp2_with fail
      generalize nextI s (wrap64 (1 + bits BinOp.and IntKind.i64 (z0[k]?.getD 0) 7)) a1 = t at *
      refine (next_any _ _ _ _).mono ?_
      rintro e w1 ⟨rfl, rfl⟩
      by_cases ht : t = 3
      · subst ht
        rw [show nextI 3 2 a1 = 3 from rfl]
        go_wp2_with fail
        refine (next_any _ _ _ _).mono ?_
        rintro e w1 ⟨rfl, rfl⟩
        rw [show nextI 3 8 a1 = 1 from rfl]
        go_wp2_with fail
        refine (next_any _ _ _ _).mono ?_
        rintro e w1 ⟨rfl, rfl⟩
        rw [show nextI 3 1 a1 = 3 from rfl]
        go_wp2
        exact ⟨⟨k + 1, 3, by go_num, rfl, by omega, by omega, hg⟩, by simp [intOf]; omega⟩
      · have t3 : (t == 3) = false := by rw [beq_eq_false_iff_ne]; exact ht
        rw [show nextI t 2 a1 = 2 from by simp [nextI, ht]]
        clear ht
        go_wp2_with fail
        refine (next_any _ _ _ _).mono ?_
        rintro e w1 ⟨rfl, rfl⟩
        rw [show nextI 2 3 a1 = 1 from rfl]
        go_wp2_with fail
        refine (next_any _ _ _ _).mono ?_
        rintro e w1 ⟨rfl, rfl⟩
        rw [show nextI 2 1 a1 = 2 from rfl]
        go_wp2_with fail
        refine (next_any _ _ _ _).mono ?_
        rintro e w1 ⟨rfl, rfl⟩
        rw [show nextI t 7 a1 = 3 from by simp [nextI]]
        go_wp2
        exact ⟨⟨k + 1, t, by go_num, rfl, by omega, by omega, hg⟩, by simp [intOf]; omega⟩
    · rcases (show ¬ k < len0 ∨ (k < len0 ∧ ¬ k < 100) from by omega) with hx | ⟨hx, hy⟩ <;> go_wp2_with fail
      all_goals
        refine (awake_any _).mono ?_
        rintro e u5 ⟨rfl, hg5⟩
        go_wp2
        go_ret
        exact ⟨rfl, below_of_gb (gb_trans hg hg5)⟩
end Go.Proofs.Ytekgkflabcbobaa
