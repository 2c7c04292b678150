/- Contracts of Decided. -/
import Derived.Test.YtekgkflabcbobaaPt
namespace Go.Proofs.Ytekgkflabcbobaa
open Go.RowKit

set_option maxHeartbeats 4000000 in
set_option maxRecDepth 100000 in
theorem dec_any (s d : Int) (same so : Bool) (w : World) : Calls Try.prog 10 #[.int .i64 s, .int .i64 d, .bool same, .bool so] w fun r w' => r = .returned (.int .i64 (decI s d same so)) ∧ w = w' := by
  cases ha : aliveB s with
  | false =>
    have hv : decI s d same so = s := by simp [decI, ha]
    rw [hv]
    clear hv
    have HA := hide ha
    clear ha
    go_enter Try.func10, Try.ntmps10
    go_wp2_with fail
    refine (alive_any _ _).mono ?_
    rintro r w1 ⟨rfl, rfl⟩
    rw [HA.out]
    go_wp2
    go_ret
    exact ⟨rfl, rfl⟩
  | true =>
    have HA := hide ha
    clear ha
    rcases (show d < 1 ∨ 6 < d ∨ d = 6 ∨ (1 ≤ d ∧ d ≤ 5) from by omega) with h | h | rfl | ⟨h, h'⟩
    · have hv : decI s d same so = s := by unfold decI; rw [if_pos (by omega)]
      rw [hv]
      clear hv
      go_enter Try.func10, Try.ntmps10
      go_wp2_with fail
      refine (alive_any _ _).mono ?_
      rintro r w1 ⟨rfl, rfl⟩
      rw [HA.out]
      go_wp2
      go_ret
      exact ⟨rfl, rfl⟩
    · have hv : decI s d same so = s := by unfold decI; rw [if_pos (by omega)]
      rw [hv]
      clear hv
      go_enter Try.func10, Try.ntmps10
      go_wp2_with fail
      refine (alive_any _ _).mono ?_
      rintro r w1 ⟨rfl, rfl⟩
      rw [HA.out]
      go_wp2
      go_ret
      exact ⟨rfl, rfl⟩
    · cases so <;> cases same
      · have hv : decI s 6 false false = 8 := by simp [decI, HA.out]
        rw [hv]
        clear hv
        go_enter Try.func10, Try.ntmps10
        go_wp2_with fail
        refine (alive_any _ _).mono ?_
        rintro r w1 ⟨rfl, rfl⟩
        rw [HA.out]
        go_wp2
        go_ret
        exact ⟨rfl, rfl⟩
      · cases hf : followsB s
        · have hv : decI s 6 true false = 8 := by simp [decI, HA.out, hf]
          rw [hv]
          have HF := hide hf
          clear hv hf
          go_enter Try.func10, Try.ntmps10
          go_wp2_with fail
          refine (alive_any _ _).mono ?_
          rintro r w1 ⟨rfl, rfl⟩
          rw [HA.out]
          go_wp2_with fail
          refine (follows_any _ _).mono ?_
          rintro r w1 ⟨rfl, rfl⟩
          rw [HF.out]
          go_wp2
          go_ret
          exact ⟨rfl, rfl⟩
        · have hv : decI s 6 true false = s := by simp [decI, HA.out, hf]
          rw [hv]
          have HF := hide hf
          clear hv hf
          go_enter Try.func10, Try.ntmps10
          go_wp2_with fail
          refine (alive_any _ _).mono ?_
          rintro r w1 ⟨rfl, rfl⟩
          rw [HA.out]
          go_wp2_with fail
          refine (follows_any _ _).mono ?_
          rintro r w1 ⟨rfl, rfl⟩
          rw [HF.out]
          go_wp2
          go_ret
          exact ⟨rfl, rfl⟩
      · have hv : decI s 6 false true = 8 := by simp [decI, HA.out]
        rw [hv]
        clear hv
        go_enter Try.func10, Try.ntmps10
        go_wp2_with fail
        refine (alive_any _ _).mono ?_
        rintro r w1 ⟨rfl, rfl⟩
        rw [HA.out]
        go_wp2
        go_ret
        exact ⟨rfl, rfl⟩
      · cases hf : followsB s
        · have hv : decI s 6 true true = 8 := by simp [decI, HA.out, hf]
          rw [hv]
          have HF := hide hf
          clear hv hf
          go_enter Try.func10, Try.ntmps10
          go_wp2_with fail
          refine (alive_any _ _).mono ?_
          rintro r w1 ⟨rfl, rfl⟩
          rw [HA.out]
          go_wp2_with fail
          refine (follows_any _ _).mono ?_
          rintro r w1 ⟨rfl, rfl⟩
          rw [HF.out]
          go_wp2
          go_ret
          exact ⟨rfl, rfl⟩
        · have hv : decI s 6 true true = s := by simp [decI, HA.out, hf]
          rw [hv]
          have HF := hide hf
          clear hv hf
          go_enter Try.func10, Try.ntmps10
          go_wp2_with fail
          refine (alive_any _ _).mono ?_
          rintro r w1 ⟨rfl, rfl⟩
          rw [HA.out]
          go_wp2_with fail
          refine (follows_any _ _).mono ?_
          rintro r w1 ⟨rfl, rfl⟩
          rw [HF.out]
          go_wp2
          go_ret
          exact ⟨rfl, rfl⟩
    · cases so
      · rcases (show d = 1 ∨ d = 2 ∨ (d = 3 ∧ s = 6) ∨ (d = 3 ∧ s ≠ 6) ∨ d = 4 ∨ d = 5 from by omega) with rfl | rfl | ⟨rfl, hs⟩ | ⟨rfl, hs⟩ | rfl | rfl
        · have hv : decI s 1 same false = 6 := by simp [decI, HA.out]
          rw [hv]
          clear hv
          go_enter Try.func10, Try.ntmps10
          go_wp2_with fail
          refine (alive_any _ _).mono ?_
          rintro r w1 ⟨rfl, rfl⟩
          rw [HA.out]
          go_wp2
          go_ret
          exact ⟨rfl, rfl⟩
        · have hv : decI s 2 same false = 6 := by simp [decI, HA.out]
          rw [hv]
          clear hv
          go_enter Try.func10, Try.ntmps10
          go_wp2_with fail
          refine (alive_any _ _).mono ?_
          rintro r w1 ⟨rfl, rfl⟩
          rw [HA.out]
          go_wp2
          go_ret
          exact ⟨rfl, rfl⟩
        · have hv : decI s 3 same false = 6 := by simp [decI, hs]
          rw [hv]
          clear hv
          subst hs
          go_enter Try.func10, Try.ntmps10
          go_wp2_with fail
          refine (alive_any _ _).mono ?_
          rintro r w1 ⟨rfl, rfl⟩
          rw [HA.out]
          go_wp2
          go_ret
          exact ⟨rfl, rfl⟩
        · have hv : decI s 3 same false = 5 := by simp [decI, HA.out, hs]
          rw [hv]
          clear hv
          have t6 : (s == 6) = false := by rw [beq_eq_false_iff_ne]; omega
          clear hs
          go_enter Try.func10, Try.ntmps10
          go_wp2_with fail
          refine (alive_any _ _).mono ?_
          rintro r w1 ⟨rfl, rfl⟩
          rw [HA.out]
          go_wp2
          go_ret
          exact ⟨rfl, rfl⟩
        · have hv : decI s 4 same false = 7 := by simp [decI, HA.out]
          rw [hv]
          clear hv
          go_enter Try.func10, Try.ntmps10
          go_wp2_with fail
          refine (alive_any _ _).mono ?_
          rintro r w1 ⟨rfl, rfl⟩
          rw [HA.out]
          go_wp2
          go_ret
          exact ⟨rfl, rfl⟩
        · have hv : decI s 5 same false = 7 := by simp [decI, HA.out]
          rw [hv]
          clear hv
          go_enter Try.func10, Try.ntmps10
          go_wp2_with fail
          refine (alive_any _ _).mono ?_
          rintro r w1 ⟨rfl, rfl⟩
          rw [HA.out]
          go_wp2
          go_ret
          exact ⟨rfl, rfl⟩
      · have hv : decI s d same true = 4 := by unfold decI; rw [if_neg (by rw [HA.out]; simp; omega), if_pos ⟨rfl, by omega⟩]
        rw [hv]
        clear hv
        have t6 : (d == 6) = false := by rw [beq_eq_false_iff_ne]; omega
        go_enter Try.func10, Try.ntmps10
        go_wp2_with fail
        refine (alive_any _ _).mono ?_
        rintro r w1 ⟨rfl, rfl⟩
        rw [HA.out]
        go_wp2
        go_ret
        exact ⟨rfl, rfl⟩

set_option maxHeartbeats 4000000 in
set_option maxRecDepth 100000 in
theorem rdec_any (s d : Int) (same so : Bool) (w : World) : Calls Try.prog 11 #[.int .i64 s, .int .i64 d, .bool same, .bool so] w fun r w' => r = .returned (.int .i64 (decI s d same so)) ∧ w = w' := by
  cases ha : aliveB s with
  | false =>
    have hv : decI s d same so = s := by simp [decI, ha]
    rw [hv]
    clear hv
    have HA := hide ha
    clear ha
    go_enter Try.func11, Try.ntmps11
    go_wp2_with fail
    refine (ralive_any _ _).mono ?_
    rintro r w1 ⟨rfl, rfl⟩
    rw [HA.out]
    go_wp2
    go_ret
    exact ⟨rfl, rfl⟩
  | true =>
    have HA := hide ha
    clear ha
    rcases (show d < 1 ∨ 6 < d ∨ d = 6 ∨ (1 ≤ d ∧ d ≤ 5) from by omega) with h | h | rfl | ⟨h, h'⟩
    · have hv : decI s d same so = s := by unfold decI; rw [if_pos (by omega)]
      rw [hv]
      clear hv
      go_enter Try.func11, Try.ntmps11
      go_wp2_with fail
      refine (ralive_any _ _).mono ?_
      rintro r w1 ⟨rfl, rfl⟩
      rw [HA.out]
      go_wp2
      go_ret
      exact ⟨rfl, rfl⟩
    · have hv : decI s d same so = s := by unfold decI; rw [if_pos (by omega)]
      rw [hv]
      clear hv
      go_enter Try.func11, Try.ntmps11
      go_wp2_with fail
      refine (ralive_any _ _).mono ?_
      rintro r w1 ⟨rfl, rfl⟩
      rw [HA.out]
      go_wp2
      go_ret
      exact ⟨rfl, rfl⟩
    · cases so <;> cases same
      · have hv : decI s 6 false false = 8 := by simp [decI, HA.out]
        rw [hv]
        clear hv
        go_enter Try.func11, Try.ntmps11
        go_wp2_with fail
        refine (ralive_any _ _).mono ?_
        rintro r w1 ⟨rfl, rfl⟩
        rw [HA.out]
        go_wp2
        go_ret
        exact ⟨rfl, rfl⟩
      · cases hf : followsB s
        · have hv : decI s 6 true false = 8 := by simp [decI, HA.out, hf]
          rw [hv]
          have HF := hide hf
          clear hv hf
          go_enter Try.func11, Try.ntmps11
          go_wp2_with fail
          refine (ralive_any _ _).mono ?_
          rintro r w1 ⟨rfl, rfl⟩
          rw [HA.out]
          go_wp2_with fail
          refine (rfollows_any _ _).mono ?_
          rintro r w1 ⟨rfl, rfl⟩
          rw [HF.out]
          go_wp2
          go_ret
          exact ⟨rfl, rfl⟩
        · have hv : decI s 6 true false = s := by simp [decI, HA.out, hf]
          rw [hv]
          have HF := hide hf
          clear hv hf
          go_enter Try.func11, Try.ntmps11
          go_wp2_with fail
          refine (ralive_any _ _).mono ?_
          rintro r w1 ⟨rfl, rfl⟩
          rw [HA.out]
          go_wp2_with fail
          refine (rfollows_any _ _).mono ?_
          rintro r w1 ⟨rfl, rfl⟩
          rw [HF.out]
          go_wp2
          go_ret
          exact ⟨rfl, rfl⟩
      · have hv : decI s 6 false true = 8 := by simp [decI, HA.out]
        rw [hv]
        clear hv
        go_enter Try.func11, Try.ntmps11
        go_wp2_with fail
        refine (ralive_any _ _).mono ?_
        rintro r w1 ⟨rfl, rfl⟩
        rw [HA.out]
        go_wp2
        go_ret
        exact ⟨rfl, rfl⟩
      · cases hf : followsB s
        · have hv : decI s 6 true true = 8 := by simp [decI, HA.out, hf]
          rw [hv]
          have HF := hide hf
          clear hv hf
          go_enter Try.func11, Try.ntmps11
          go_wp2_with fail
          refine (ralive_any _ _).mono ?_
          rintro r w1 ⟨rfl, rfl⟩
          rw [HA.out]
          go_wp2_with fail
          refine (rfollows_any _ _).mono ?_
          rintro r w1 ⟨rfl, rfl⟩
          rw [HF.out]
          go_wp2
          go_ret
          exact ⟨rfl, rfl⟩
        · have hv : decI s 6 true true = s := by simp [decI, HA.out, hf]
          rw [hv]
          have HF := hide hf
          clear hv hf
          go_enter Try.func11, Try.ntmps11
          go_wp2_with fail
          refine (ralive_any _ _).mono ?_
          rintro r w1 ⟨rfl, rfl⟩
          rw [HA.out]
          go_wp2_with fail
          refine (rfollows_any _ _).mono ?_
          rintro r w1 ⟨rfl, rfl⟩
          rw [HF.out]
          go_wp2
          go_ret
          exact ⟨rfl, rfl⟩
    · cases so
      · rcases (show d = 1 ∨ d = 2 ∨ (d = 3 ∧ s = 6) ∨ (d = 3 ∧ s ≠ 6) ∨ d = 4 ∨ d = 5 from by omega) with rfl | rfl | ⟨rfl, hs⟩ | ⟨rfl, hs⟩ | rfl | rfl
        · have hv : decI s 1 same false = 6 := by simp [decI, HA.out]
          rw [hv]
          clear hv
          go_enter Try.func11, Try.ntmps11
          go_wp2_with fail
          refine (ralive_any _ _).mono ?_
          rintro r w1 ⟨rfl, rfl⟩
          rw [HA.out]
          go_wp2
          go_ret
          exact ⟨rfl, rfl⟩
        · have hv : decI s 2 same false = 6 := by simp [decI, HA.out]
          rw [hv]
          clear hv
          go_enter Try.func11, Try.ntmps11
          go_wp2_with fail
          refine (ralive_any _ _).mono ?_
          rintro r w1 ⟨rfl, rfl⟩
          rw [HA.out]
          go_wp2
          go_ret
          exact ⟨rfl, rfl⟩
        · have hv : decI s 3 same false = 6 := by simp [decI, hs]
          rw [hv]
          clear hv
          subst hs
          go_enter Try.func11, Try.ntmps11
          go_wp2_with fail
          refine (ralive_any _ _).mono ?_
          rintro r w1 ⟨rfl, rfl⟩
          rw [HA.out]
          go_wp2
          go_ret
          exact ⟨rfl, rfl⟩
        · have hv : decI s 3 same false = 5 := by simp [decI, HA.out, hs]
          rw [hv]
          clear hv
          have t6 : (s == 6) = false := by rw [beq_eq_false_iff_ne]; omega
          clear hs
          go_enter Try.func11, Try.ntmps11
          go_wp2_with fail
          refine (ralive_any _ _).mono ?_
          rintro r w1 ⟨rfl, rfl⟩
          rw [HA.out]
          go_wp2
          go_ret
          exact ⟨rfl, rfl⟩
        · have hv : decI s 4 same false = 7 := by simp [decI, HA.out]
          rw [hv]
          clear hv
          go_enter Try.func11, Try.ntmps11
          go_wp2_with fail
          refine (ralive_any _ _).mono ?_
          rintro r w1 ⟨rfl, rfl⟩
          rw [HA.out]
          go_wp2
          go_ret
          exact ⟨rfl, rfl⟩
        · have hv : decI s 5 same false = 7 := by simp [decI, HA.out]
          rw [hv]
          clear hv
          go_enter Try.func11, Try.ntmps11
          go_wp2_with fail
          refine (ralive_any _ _).mono ?_
          rintro r w1 ⟨rfl, rfl⟩
          rw [HA.out]
          go_wp2
          go_ret
          exact ⟨rfl, rfl⟩
      · have hv : decI s d same true = 4 := by unfold decI; rw [if_neg (by rw [HA.out]; simp; omega), if_pos ⟨rfl, by omega⟩]
        rw [hv]
        clear hv
        have t6 : (d == 6) = false := by rw [beq_eq_false_iff_ne]; omega
        go_enter Try.func11, Try.ntmps11
        go_wp2_with fail
        refine (ralive_any _ _).mono ?_
        rintro r w1 ⟨rfl, rfl⟩
        rw [HA.out]
        go_wp2
        go_ret
        exact ⟨rfl, rfl⟩

end Go.Proofs.Ytekgkflabcbobaa
