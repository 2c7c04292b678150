/- Contracts of Next. -/
import Derived.Test.YtekgkflabcbobaaPt
namespace Go.Proofs.Ytekgkflabcbobaa
open Go.RowKit

set_option maxHeartbeats 2000000 in
set_option maxRecDepth 100000 in
theorem next_any (s e : Int) (so : Bool) (w : World) : Calls Try.prog 7 #[.int .i64 s, .int .i64 e, .bool so] w fun r w' => r = .returned (.int .i64 (nextI s e so)) ∧ w = w' := by
  rcases (show (e = 1 ∧ s = 1) ∨ (e = 1 ∧ s ≠ 1) ∨ (e = 2 ∧ s = 3) ∨ (e = 2 ∧ s ≠ 3) ∨ (e = 3 ∧ s = 2) ∨ (e = 3 ∧ s ≠ 2) ∨ (e = 5 ∧ s = 5) ∨ (e = 5 ∧ s ≠ 5) ∨ (e = 6 ∧ s = 8) ∨ (e = 6 ∧ s ≠ 8) ∨ (e = 8 ∧ s = 3) ∨ (e = 8 ∧ s ≠ 3) ∨ (e = 7) ∨ (e = 4) ∨ (e ≠ 1 ∧ e ≠ 2 ∧ e ≠ 3 ∧ e ≠ 4 ∧ e ≠ 5 ∧ e ≠ 6 ∧ e ≠ 7 ∧ e ≠ 8) from by omega) with ⟨rfl, rfl⟩ | ⟨rfl, h⟩ | ⟨rfl, rfl⟩ | ⟨rfl, h⟩ | ⟨rfl, rfl⟩ | ⟨rfl, h⟩ | ⟨rfl, rfl⟩ | ⟨rfl, h⟩ | ⟨rfl, rfl⟩ | ⟨rfl, h⟩ | ⟨rfl, rfl⟩ | ⟨rfl, h⟩ | rfl | rfl | ⟨n1, n2, n3, n4, n5, n6, n7, n8⟩
  · have hv : nextI 1 1 so = 4 := rfl
    rw [hv]
    clear hv
    go_enter Try.func7, Try.ntmps7
    go_wp2
    go_ret
    exact ⟨rfl, rfl⟩
  · have hv : nextI s 1 so = s := by simp [nextI, h]
    rw [hv]
    clear hv
    have t1 : (s == 1) = false := by rw [beq_eq_false_iff_ne]; omega
    go_enter Try.func7, Try.ntmps7
    go_wp2
    go_ret
    exact ⟨rfl, rfl⟩
  · have hv : nextI 3 2 so = 3 := rfl
    rw [hv]
    clear hv
    go_enter Try.func7, Try.ntmps7
    go_wp2
    go_ret
    exact ⟨rfl, rfl⟩
  · have hv : nextI s 2 so = 2 := by simp [nextI, h]
    rw [hv]
    clear hv
    have t3 : (s == 3) = false := by rw [beq_eq_false_iff_ne]; omega
    go_enter Try.func7, Try.ntmps7
    go_wp2
    go_ret
    exact ⟨rfl, rfl⟩
  · have hv : nextI 2 3 so = 1 := rfl
    rw [hv]
    clear hv
    go_enter Try.func7, Try.ntmps7
    go_wp2
    go_ret
    exact ⟨rfl, rfl⟩
  · have hv : nextI s 3 so = s := by simp [nextI, h]
    rw [hv]
    clear hv
    have t2 : (s == 2) = false := by rw [beq_eq_false_iff_ne]; omega
    go_enter Try.func7, Try.ntmps7
    go_wp2
    go_ret
    exact ⟨rfl, rfl⟩
  · have hv : nextI 5 5 so = 6 := rfl
    rw [hv]
    clear hv
    go_enter Try.func7, Try.ntmps7
    go_wp2
    go_ret
    exact ⟨rfl, rfl⟩
  · have hv : nextI s 5 so = s := by simp [nextI, h]
    rw [hv]
    clear hv
    have t5 : (s == 5) = false := by rw [beq_eq_false_iff_ne]; omega
    go_enter Try.func7, Try.ntmps7
    go_wp2
    go_ret
    exact ⟨rfl, rfl⟩
  · have hv : nextI 8 6 so = 9 := rfl
    rw [hv]
    clear hv
    go_enter Try.func7, Try.ntmps7
    go_wp2
    go_ret
    exact ⟨rfl, rfl⟩
  · have hv : nextI s 6 so = s := by simp [nextI, h]
    rw [hv]
    clear hv
    have t8 : (s == 8) = false := by rw [beq_eq_false_iff_ne]; omega
    go_enter Try.func7, Try.ntmps7
    go_wp2
    go_ret
    exact ⟨rfl, rfl⟩
  · have hv : nextI 3 8 so = 1 := rfl
    rw [hv]
    clear hv
    go_enter Try.func7, Try.ntmps7
    go_wp2
    go_ret
    exact ⟨rfl, rfl⟩
  · have hv : nextI s 8 so = s := by simp [nextI, h]
    rw [hv]
    clear hv
    have t3 : (s == 3) = false := by rw [beq_eq_false_iff_ne]; omega
    go_enter Try.func7, Try.ntmps7
    go_wp2
    go_ret
    exact ⟨rfl, rfl⟩
  · have hv : nextI s 7 so = 3 := rfl
    rw [hv]
    clear hv
    go_enter Try.func7, Try.ntmps7
    go_wp2
    go_ret
    exact ⟨rfl, rfl⟩
  · cases hh : hearsB s with
    | false =>
      have hv : nextI s 4 so = s := by simp [nextI, hh]
      rw [hv]
      clear hv
      have HH := hide hh
      clear hh
      go_enter Try.func7, Try.ntmps7
      go_wp2_with fail
      refine (hears_any _ _).mono ?_
      rintro r w1 ⟨rfl, rfl⟩
      rw [HH.out]
      go_wp2
      go_ret
      exact ⟨rfl, rfl⟩
    | true =>
      have HH := hide hh
      cases so
      · have hv : nextI s 4 false = 6 := by simp [nextI, hh]
        rw [hv]
        clear hv hh
        go_enter Try.func7, Try.ntmps7
        go_wp2_with fail
        refine (hears_any _ _).mono ?_
        rintro r w1 ⟨rfl, rfl⟩
        rw [HH.out]
        go_wp2
        go_ret
        exact ⟨rfl, rfl⟩
      · have hv : nextI s 4 true = 4 := by simp [nextI, hh]
        rw [hv]
        clear hv hh
        go_enter Try.func7, Try.ntmps7
        go_wp2_with fail
        refine (hears_any _ _).mono ?_
        rintro r w1 ⟨rfl, rfl⟩
        rw [HH.out]
        go_wp2
        go_ret
        exact ⟨rfl, rfl⟩
  · have hv : nextI s e so = s := by simp [nextI, n1, n2, n3, n4, n5, n6, n7, n8]
    rw [hv]
    clear hv
    have t1 : (e == 1) = false := by rw [beq_eq_false_iff_ne]; omega
    have t2 : (e == 2) = false := by rw [beq_eq_false_iff_ne]; omega
    have t3 : (e == 3) = false := by rw [beq_eq_false_iff_ne]; omega
    have t4 : (e == 4) = false := by rw [beq_eq_false_iff_ne]; omega
    have t5 : (e == 5) = false := by rw [beq_eq_false_iff_ne]; omega
    have t6 : (e == 6) = false := by rw [beq_eq_false_iff_ne]; omega
    have t7 : (e == 7) = false := by rw [beq_eq_false_iff_ne]; omega
    have t8 : (e == 8) = false := by rw [beq_eq_false_iff_ne]; omega
    go_enter Try.func7, Try.ntmps7
    go_wp2
    go_ret
    exact ⟨rfl, rfl⟩

set_option maxHeartbeats 2000000 in
set_option maxRecDepth 100000 in
theorem rnext_any (s e : Int) (so : Bool) (w : World) : Calls Try.prog 9 #[.int .i64 s, .int .i64 e, .bool so] w fun r w' => r = .returned (.int .i64 (nextI s e so)) ∧ w = w' := by
  rcases (show (e = 1 ∧ s = 1) ∨ (e = 1 ∧ s ≠ 1) ∨ (e = 2 ∧ s = 3) ∨ (e = 2 ∧ s ≠ 3) ∨ (e = 3 ∧ s = 2) ∨ (e = 3 ∧ s ≠ 2) ∨ (e = 5 ∧ s = 5) ∨ (e = 5 ∧ s ≠ 5) ∨ (e = 6 ∧ s = 8) ∨ (e = 6 ∧ s ≠ 8) ∨ (e = 8 ∧ s = 3) ∨ (e = 8 ∧ s ≠ 3) ∨ (e = 7) ∨ (e = 4) ∨ (e ≠ 1 ∧ e ≠ 2 ∧ e ≠ 3 ∧ e ≠ 4 ∧ e ≠ 5 ∧ e ≠ 6 ∧ e ≠ 7 ∧ e ≠ 8) from by omega) with ⟨rfl, rfl⟩ | ⟨rfl, h⟩ | ⟨rfl, rfl⟩ | ⟨rfl, h⟩ | ⟨rfl, rfl⟩ | ⟨rfl, h⟩ | ⟨rfl, rfl⟩ | ⟨rfl, h⟩ | ⟨rfl, rfl⟩ | ⟨rfl, h⟩ | ⟨rfl, rfl⟩ | ⟨rfl, h⟩ | rfl | rfl | ⟨n1, n2, n3, n4, n5, n6, n7, n8⟩
  · have hv : nextI 1 1 so = 4 := rfl
    rw [hv]
    clear hv
    go_enter Try.func9, Try.ntmps9
    go_wp2
    go_ret
    exact ⟨rfl, rfl⟩
  · have hv : nextI s 1 so = s := by simp [nextI, h]
    rw [hv]
    clear hv
    have t1 : (s == 1) = false := by rw [beq_eq_false_iff_ne]; omega
    go_enter Try.func9, Try.ntmps9
    go_wp2
    go_ret
    exact ⟨rfl, rfl⟩
  · have hv : nextI 3 2 so = 3 := rfl
    rw [hv]
    clear hv
    go_enter Try.func9, Try.ntmps9
    go_wp2
    go_ret
    exact ⟨rfl, rfl⟩
  · have hv : nextI s 2 so = 2 := by simp [nextI, h]
    rw [hv]
    clear hv
    have t3 : (s == 3) = false := by rw [beq_eq_false_iff_ne]; omega
    go_enter Try.func9, Try.ntmps9
    go_wp2
    go_ret
    exact ⟨rfl, rfl⟩
  · have hv : nextI 2 3 so = 1 := rfl
    rw [hv]
    clear hv
    go_enter Try.func9, Try.ntmps9
    go_wp2
    go_ret
    exact ⟨rfl, rfl⟩
  · have hv : nextI s 3 so = s := by simp [nextI, h]
    rw [hv]
    clear hv
    have t2 : (s == 2) = false := by rw [beq_eq_false_iff_ne]; omega
    go_enter Try.func9, Try.ntmps9
    go_wp2
    go_ret
    exact ⟨rfl, rfl⟩
  · have hv : nextI 5 5 so = 6 := rfl
    rw [hv]
    clear hv
    go_enter Try.func9, Try.ntmps9
    go_wp2
    go_ret
    exact ⟨rfl, rfl⟩
  · have hv : nextI s 5 so = s := by simp [nextI, h]
    rw [hv]
    clear hv
    have t5 : (s == 5) = false := by rw [beq_eq_false_iff_ne]; omega
    go_enter Try.func9, Try.ntmps9
    go_wp2
    go_ret
    exact ⟨rfl, rfl⟩
  · have hv : nextI 8 6 so = 9 := rfl
    rw [hv]
    clear hv
    go_enter Try.func9, Try.ntmps9
    go_wp2
    go_ret
    exact ⟨rfl, rfl⟩
  · have hv : nextI s 6 so = s := by simp [nextI, h]
    rw [hv]
    clear hv
    have t8 : (s == 8) = false := by rw [beq_eq_false_iff_ne]; omega
    go_enter Try.func9, Try.ntmps9
    go_wp2
    go_ret
    exact ⟨rfl, rfl⟩
  · have hv : nextI 3 8 so = 1 := rfl
    rw [hv]
    clear hv
    go_enter Try.func9, Try.ntmps9
    go_wp2
    go_ret
    exact ⟨rfl, rfl⟩
  · have hv : nextI s 8 so = s := by simp [nextI, h]
    rw [hv]
    clear hv
    have t3 : (s == 3) = false := by rw [beq_eq_false_iff_ne]; omega
    go_enter Try.func9, Try.ntmps9
    go_wp2
    go_ret
    exact ⟨rfl, rfl⟩
  · have hv : nextI s 7 so = 3 := rfl
    rw [hv]
    clear hv
    go_enter Try.func9, Try.ntmps9
    go_wp2
    go_ret
    exact ⟨rfl, rfl⟩
  · cases hh : hearsB s with
    | false =>
      have hv : nextI s 4 so = s := by simp [nextI, hh]
      rw [hv]
      clear hv
      have HH := hide hh
      clear hh
      go_enter Try.func9, Try.ntmps9
      go_wp2_with fail
      refine (rhears_any _ _).mono ?_
      rintro r w1 ⟨rfl, rfl⟩
      rw [HH.out]
      go_wp2_with fail
      refine (rhears_any _ _).mono ?_
      rintro r w1 ⟨rfl, rfl⟩
      rw [HH.out]
      go_wp2
      go_ret
      exact ⟨rfl, rfl⟩
    | true =>
      have HH := hide hh
      cases so
      · have hv : nextI s 4 false = 6 := by simp [nextI, hh]
        rw [hv]
        clear hv hh
        go_enter Try.func9, Try.ntmps9
        go_wp2_with fail
        refine (rhears_any _ _).mono ?_
        rintro r w1 ⟨rfl, rfl⟩
        rw [HH.out]
        go_wp2_with fail
        refine (rhears_any _ _).mono ?_
        rintro r w1 ⟨rfl, rfl⟩
        rw [HH.out]
        go_wp2
        go_ret
        exact ⟨rfl, rfl⟩
      · have hv : nextI s 4 true = 4 := by simp [nextI, hh]
        rw [hv]
        clear hv hh
        go_enter Try.func9, Try.ntmps9
        go_wp2_with fail
        refine (rhears_any _ _).mono ?_
        rintro r w1 ⟨rfl, rfl⟩
        rw [HH.out]
        go_wp2
        go_ret
        exact ⟨rfl, rfl⟩
  · have hv : nextI s e so = s := by simp [nextI, n1, n2, n3, n4, n5, n6, n7, n8]
    rw [hv]
    clear hv
    have t1 : (e == 1) = false := by rw [beq_eq_false_iff_ne]; omega
    have t2 : (e == 2) = false := by rw [beq_eq_false_iff_ne]; omega
    have t3 : (e == 3) = false := by rw [beq_eq_false_iff_ne]; omega
    have t4 : (e == 4) = false := by rw [beq_eq_false_iff_ne]; omega
    have t5 : (e == 5) = false := by rw [beq_eq_false_iff_ne]; omega
    have t6 : (e == 6) = false := by rw [beq_eq_false_iff_ne]; omega
    have t7 : (e == 7) = false := by rw [beq_eq_false_iff_ne]; omega
    have t8 : (e == 8) = false := by rw [beq_eq_false_iff_ne]; omega
    go_enter Try.func9, Try.ntmps9
    go_wp2
    go_ret
    exact ⟨rfl, rfl⟩

end Go.Proofs.Ytekgkflabcbobaa
