/- The walk of OscSteps. -/
import Derived.Test.YtagpcmhannmaeaaStep
namespace Go.Proofs.Ytagpcmhannmaeaa
open Go.RowKit

/-- In whole seconds: nothing is rounded. -/
theorem gain_whole (k r : Int) : gain (k * 1000000000) r = k * r := by
  unfold gain
  rw [Int.mul_ediv_cancel _ (by omega), Int.mul_emod_left, Int.zero_mul]
  simp
theorem stampI_in {v : Int} (h0 : 0 ≤ v) (h1 : v ≤ 4000000000000000) : stampI v = v := by unfold stampI cut3; omega

/-- A step moves it by just so much, then and later. -/
theorem stepped {l r k n m : Int} (l0 : 500000000000000 ≤ l) (l1 : l < 1000000000000000) (k0 : 0 ≤ k) (k1 : k ≤ 999) (m0 : 0 ≤ m) (m1 : m ≤ 999) (n0 : -250000000000000 ≤ n) (n1 : n < 250000000000000) :
    ((Oc.new l r).step (k * 1000000000) n).read (k * 1000000000) = (Oc.new l r).read (k * 1000000000) + n ∧
    ((Oc.new l r).step (k * 1000000000) n).read (k * 1000000000 + m * 1000000000) = (Oc.new l r).read (k * 1000000000 + m * 1000000000) + n ∧
    (Oc.new l r).read (k * 1000000000) ≤ 2000000000000000 ∧ (Oc.new l r).read (k * 1000000000 + m * 1000000000) ≤ 2000000000000000 := by
  have hR := rateI_bd r
  have hn : Oc.new l r = ⟨0, l, rateI r, 0⟩ := by unfold Oc.new; rw [stampI_in (by omega) (by omega)]
  rw [hn]
  generalize rateI r = R at *
  have hB : ∀ j : Int, 0 ≤ j → j ≤ 1998 → (⟨0, l, R, 0⟩ : Oc).read (j * 1000000000) = l + j * 1000000000 + j * R ∧ -1100000000 ≤ j * R ∧ j * R ≤ 1100000000 := by
    intro j j0 j1
    have hm := mul_bd (A := 1998) j0 j1 hR.1 hR.2 (by omega)
    refine ⟨?_, by omega, by omega⟩
    have ht : (⟨0, l, R, 0⟩ : Oc).ago (j * 1000000000) = j * 1000000000 := by unfold Oc.ago Oc.time cut3; dsimp only; omega
    unfold Oc.read
    rw [ht, gain_whole]
    dsimp only
    rw [Int.add_zero, stampI_in (by omega) (by omega)]
  have h1 := hB k k0 (by omega)
  have h2 := hB (k + m) (by omega) (by omega)
  rw [Int.add_mul] at h2
  have hs : (⟨0, l, R, 0⟩ : Oc).step (k * 1000000000) n = ⟨k * 1000000000, l + k * 1000000000 + k * R + n, R, 0⟩ := by
    unfold Oc.step Oc.anchor
    rw [h1.1]
    have ht : (⟨0, l, R, 0⟩ : Oc).time (k * 1000000000) = k * 1000000000 := by unfold Oc.time cut3; dsimp only; omega
    rw [ht]
    dsimp only
    rw [show cut3 n (-4000000000000000) 4000000000000000 = n from by unfold cut3; omega, stampI_in (by omega) (by omega)]
  rw [hs]
  have hC : ∀ j : Int, 0 ≤ j → j ≤ 999 → (⟨k * 1000000000, l + k * 1000000000 + k * R + n, R, 0⟩ : Oc).read (k * 1000000000 + j * 1000000000) = l + k * 1000000000 + k * R + n + j * 1000000000 + j * R := by
    intro j j0 j1
    have hm := mul_bd (A := 999) j0 j1 hR.1 hR.2 (by omega)
    have ht : (⟨k * 1000000000, l + k * 1000000000 + k * R + n, R, 0⟩ : Oc).ago (k * 1000000000 + j * 1000000000) = j * 1000000000 := by unfold Oc.ago Oc.time cut3; dsimp only; omega
    unfold Oc.read
    rw [ht, gain_whole]
    dsimp only
    rw [Int.add_zero, stampI_in (by omega) (by omega)]
  have hC0 := hC 0 (by omega) (by omega)
  rw [Int.zero_mul, Int.add_zero, Int.zero_mul, Int.add_zero, Int.add_zero] at hC0
  rw [hC0, hC m m0 m1, h1.1, h2.1]
  have e : (k + m) * R = k * R + m * R := Int.add_mul _ _ _
  omega

set_option maxRecDepth 100000 in
theorem oscSteps_walk (a0 : Int) (a1 : Int) (a2 : Int) (a3 : Int) (a4 : Int) (_ : (Lit.int .i64 a0).wf = true) (_ : (Lit.int .i64 a1).wf = true) (_ : (Lit.int .i64 a2).wf = true) (_ : (Lit.int .i64 a3).wf = true) (_ : (Lit.int .i64 a4).wf = true) (w : World) :
    Calls Try.prog 3 #[.int .i64 a0, .int .i64 a1, .int .i64 a2, .int .i64 a3, .int .i64 a4] w fun e w' => e = .returned (.bool true) ∧ Below w.heap.size w w' := by
  have p0 := Int.emod_nonneg a0 (b := 500000000000000) (by omega)
  have p1 := Int.emod_lt_of_pos a0 (b := 500000000000000) (by omega)
  have k0 := Int.emod_nonneg a2 (b := 1000) (by omega)
  have k1 := Int.emod_lt_of_pos a2 (b := 1000) (by omega)
  have q0 := Int.emod_nonneg a3 (b := 500000000000000) (by omega)
  have q1 := Int.emod_lt_of_pos a3 (b := 500000000000000) (by omega)
  have m0 := Int.emod_nonneg a4 (b := 1000) (by omega)
  have m1 := Int.emod_lt_of_pos a4 (b := 1000) (by omega)
  go_enter Try.func3, Try.ntmps3
  go_wp2_with fail
  refine (place_any _ _ _ (by omega) (by omega)).mono ?_
  rintro e u1 ⟨rfl, rfl⟩
  go_wp2_with fail
  have l0 : 500000000000000 ≤ a0 % 500000000000000 + 500000000000000 := by omega
  have l1 : a0 % 500000000000000 + 500000000000000 < 1000000000000000 := by omega
  generalize a0 % 500000000000000 + 500000000000000 = l at *
  clear p0 p1
  refine (new_any _ _ _).mono ?_
  rintro e u1 ⟨rfl, hb1, hg1⟩
  go_wp2_with fail
  refine (new_any _ _ _).mono ?_
  rintro e u2 ⟨rfl, hb2, hg2⟩
  have ha2 : OsAt 40 u2 w.heap.size (Oc.new l a1) := Blk.other hb1 hg2 (by simp)
  have g2 := gb_trans hg1 hg2
  have hlt := Blk.lt hb1
  clear hb1 hg1 hg2
  go_wp2_with fail
  refine (place_any _ _ _ (by omega) (by omega)).mono ?_
  rintro e u3 ⟨rfl, rfl⟩
  generalize a2 % 1000 = k at *
  go_wp2_with fail
  refine (place_any _ _ _ (by omega) (by omega)).mono ?_
  rintro e u3 ⟨rfl, rfl⟩
  go_wp2_with fail
  have n0 : -250000000000000 ≤ a3 % 500000000000000 - 250000000000000 := by omega
  have n1 : a3 % 500000000000000 - 250000000000000 < 250000000000000 := by omega
  generalize a3 % 500000000000000 - 250000000000000 = n at *
  clear q0 q1
  obtain ⟨c1, c2, c3, c4⟩ := stepped (r := a1) l0 l1 k0 (by omega) m0 (by omega : a4 % 1000 ≤ 999) n0 n1
  have C1 := hide c1
  have C2 := hide c2
  clear c1 c2
  refine (step_any _ _ _ _ _ ha2 (new_ok _ _)).mono ?_
  rintro e u3 ⟨rfl, ha3, hg3⟩
  have hb3 : OsAt 40 u3 u1.heap.size (Oc.new l a1) := Blk.other hb2 hg3 (by simp; omega)
  have g3 := gb_young g2 hg3 (Nat.le_refl _)
  clear hb2 ha2 hg3 g2
  have hok := (new_ok l a1).step (k * 1000000000) n
  have HOK := hide (And.intro hok (new_ok l a1))
  clear hok
  generalize (Oc.new l a1).step (k * 1000000000) n = oa at *
  generalize Oc.new l a1 = ob at *
  go_wp2_with fail
  refine (place_any _ _ _ (by omega) (by omega)).mono ?_
  rintro e u4 ⟨rfl, rfl⟩
  generalize a4 % 1000 = m at *
  have rb1 := read_bd ob (k * 1000000000)
  have rb2 := read_bd ob (k * 1000000000 + m * 1000000000)
  go_wp2_with fail
  refine (read_any _ _ _ _ ha3 HOK.out.1).mono ?_
  rintro e w4 ⟨rfl, n4, rfl⟩
  rw [C1.out]
  have ha4 := Blk.drewN ha3 n4
  have hb4 := Blk.drewN hb3 n4
  have hg4 := gb_drewN g3 n4
  generalize u3.drewN n4 = u4 at *
  clear ha3 hb3 g3
  go_wp2_with fail
  refine (read_any _ _ _ _ hb4 HOK.out.2).mono ?_
  rintro e w4 ⟨rfl, n5, rfl⟩
  have ha5 := Blk.drewN ha4 n5
  have hb5 := Blk.drewN hb4 n5
  have hg5 := gb_drewN hg4 n5
  generalize u4.drewN n5 = u5 at *
  clear ha4 hb4 hg4
  go_wp2_with fail
  refine (read_any _ _ _ _ ha5 HOK.out.1).mono ?_
  rintro e w4 ⟨rfl, n6, rfl⟩
  rw [C2.out]
  have hb6 := Blk.drewN hb5 n6
  have hg6 := gb_drewN hg5 n6
  generalize u5.drewN n6 = u6 at *
  clear ha5 hb5 hg5
  go_wp2_with fail
  refine (read_any _ _ _ _ hb6 HOK.out.2).mono ?_
  rintro e w4 ⟨rfl, n7, rfl⟩
  have hg7 := gb_drewN hg6 n7
  generalize u6.drewN n7 = u7 at *
  clear hb6 hg6
  go_wp2_with fail
  refine (awake_any _).mono ?_
  rintro e u8 ⟨rfl, hg8⟩
  go_wp2
  go_ret
  exact ⟨rfl, below_of_gb (gb_trans hg7 hg8)⟩
end Go.Proofs.Ytagpcmhannmaeaa
