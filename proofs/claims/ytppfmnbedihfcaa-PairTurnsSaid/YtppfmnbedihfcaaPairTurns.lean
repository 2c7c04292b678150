/- The walk of PairTurns. -/
import Derived.Test.YtppfmnbedihfcaaPr
import Derived.ChangeOld
import Derived.Below
namespace Go.Proofs.Ytppfmnbedihfcaa
open Go.RowKit
attribute [local go_sem] max_two min_two max2_max min2_min

theorem two_eq : fl 2 = 4611686018427387904 := by decide +kernel
theorem mul_2 (n : Int) (h : InB n) (w : World) : (binOp .mul 33 (.float .f64 4611686018427387904) (.float .f64 (floatOfInt .f64 n))).run Try.prog w = .ok (.float .f64 (floatOfInt .f64 (2 * n))) w := by
  rw [← two_eq]
  exact run_float_arith w .mul 33 .f64 _ _ _ (mul_fl (fl_rd 2 (by decide)) (fl_rd n h.small) (by unfold InB at h; omega) (by omega) (by omega))
theorem sub_2 (a n : Int) (ha : InB a) (hn : n.natAbs < 2 ^ 53) (hd : (a - n).natAbs < 2 ^ 53) (w : World) : (binOp .sub 33 (.float .f64 (floatOfInt .f64 a)) (.float .f64 (floatOfInt .f64 n))).run Try.prog w = .ok (.float .f64 (floatOfInt .f64 (a - n))) w :=
  run_float_arith w .sub 33 .f64 _ _ _ (sub_fl (fl_rd a ha.small) (fl_rd n hn) hd)
/-- Nought or one, as the statement asks. -/
def Bit (v : Nat) : Prop := FloatKind.f64.format.order v 0 = some .eq ∨ (FloatKind.f64.format.order v 0 = some .gt ∧ FloatKind.f64.format.order v 4607182418800017408 = some .eq)
theorem bit_of (n : Int) (h : n = 0 ∨ n = 1) : Bit (floatOfInt .f64 n) := by
  rcases h with rfl | rfl
  · exact .inl (by decide +kernel)
  · exact .inr ⟨by decide +kernel, by decide +kernel⟩

set_option maxHeartbeats 1000000 in
theorem pairTurns_walk (a0 : Int) (a1 : Int) (_ : (Lit.int .i64 a0).wf = true) (_ : (Lit.int .i64 a1).wf = true) (w : World) :
    Calls Try.prog 4 #[.int .i64 a0, .int .i64 a1] w fun e w' => e = .returned (.bool true) ∧ Below w.heap.size w w' := by
  have p0 := Int.emod_nonneg a0 (b := 1099511627776) (by omega)
  have p1 := Int.emod_lt_of_pos a0 (b := 1099511627776) (by omega)
  have q0 := Int.emod_nonneg a1 (b := 1099511627776) (by omega)
  have q1 := Int.emod_lt_of_pos a1 (b := 1099511627776) (by omega)
  go_enter Try.func4, Try.ntmps4
  go_wp2_with fail
  refine (place_any _ _ _ (by omega) (by omega)).mono ?_
  rintro e u1 ⟨rfl, rfl⟩
  obtain ⟨x, hx⟩ : ∃ x, a0 % 1099511627776 = x + 549755813888 := ⟨a0 % 1099511627776 - 549755813888, by omega⟩
  rw [hx] at p0 p1 ⊢
  clear hx
  go_wp2_with fail
  refine (place_any _ _ _ (by omega) (by omega)).mono ?_
  rintro e u1 ⟨rfl, rfl⟩
  obtain ⟨y, hy⟩ : ∃ y, a1 % 1099511627776 = y + 549755813888 := ⟨a1 % 1099511627776 - 549755813888, by omega⟩
  rw [hy] at q0 q1 ⊢
  clear hy
  have hx : InB x := by unfold InB; omega
  have hy : InB y := by unfold InB; omega
  have hd : InB (x - y) := by unfold InB; omega
  have hs : InB (x + y) := by unfold InB; omega
  have HOf := hide (Of_in x y)
  have HT1 := hide (Turned_fl x y hx hy)
  have HT2 := Turned_fl (x - y) (x + y) hd hs
  rw [show x - y - (x + y) = -2 * y by omega, show x - y + (x + y) = 2 * x by omega] at HT2
  have HT2 := hide HT2
  have HO := hide (Offset_fl x y hx hy)
  have HD := hide (Delay_fl x y hx hy)
  have M1 := hide (mul_2 ((x - y) / 2) (by unfold InB; omega))
  have M2 := hide (mul_2 ((x + y) / 2) (by unfold InB; omega))
  have S1 := hide (sub_2 (x - y) (2 * ((x - y) / 2)) hd (by omega) (by omega))
  have S2 := hide (sub_2 (x + y) (2 * ((x + y) / 2)) hs (by omega) (by omega))
  have B1 := hide (bit_of (x - y - 2 * ((x - y) / 2)) (by omega))
  have B2 := hide (bit_of (x + y - 2 * ((x + y) / 2)) (by omega))
  have E1 := hide (show FloatKind.f64.format.order (floatOfInt .f64 (-2 * y)) (floatOfInt .f64 (-2 * y)) = some .eq from ord_self (by unfold InB; omega))
  have E2 := hide (show FloatKind.f64.format.order (floatOfInt .f64 (2 * x)) (floatOfInt .f64 (2 * x)) = some .eq from ord_self (by unfold InB; omega))
  have HX := hide hx
  have HY := hide hy
  clear hx hy hd hs
  go_wp2_with fail
  refine (HOf.out _ HX.out HY.out).mono ?_
  rintro e u1 ⟨rfl, rfl⟩
  go_wp2_with fail
  refine (HT1.out _).mono ?_
  rintro e u1 ⟨rfl, rfl⟩
  go_wp2_with fail
  refine (HT2.out _).mono ?_
  rintro e u1 ⟨rfl, rfl⟩
  go_wp2_with fail
  refine (HO.out _).mono ?_
  rintro e u1 ⟨rfl, rfl⟩
  have d0 : (x - y) / 2 = (x - y) / 2 := rfl
  have s0 : (x + y) / 2 = (x + y) / 2 := rfl
  revert d0 s0 M1 M2 S1 S2 B1 B2 HD
  generalize (x - y) / 2 = o1
  generalize (x + y) / 2 = o2
  intro HD M1 M2 S1 S2 B1 B2 d0 s0
  clear d0 s0
  go_wp2_with fail
  refine (HD.out _).mono ?_
  rintro e u1 ⟨rfl, rfl⟩
  unfold fl
  have m1 := M1.out w
  have s1 := S1.out w
  have m2 := M2.out w
  have s2 := S2.out w
  have e1 := E1.out
  have e2 := E2.out
  rcases B1.out with b1 | ⟨b1, b1'⟩ <;> rcases B2.out with b2 | ⟨b2, b2'⟩
  all_goals
    go_wp2_with fail
    refine (awake_any _).mono ?_
    rintro e u1 ⟨rfl, rfl⟩
    go_wp2_with fail
    go_ret
    exact ⟨rfl, Below.refl _ _⟩
end Go.Proofs.Ytppfmnbedihfcaa
