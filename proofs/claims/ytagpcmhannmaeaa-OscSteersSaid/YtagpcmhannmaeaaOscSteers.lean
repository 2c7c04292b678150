/- The walk of OscSteers. -/
import Derived.Test.YtagpcmhannmaeaaStep
namespace Go.Proofs.Ytagpcmhannmaeaa
open Go.RowKit

theorem gain_zero (d : Int) : gain d 0 = 0 := by unfold gain; simp
theorem gain_bd {d r : Int} (d0 : 0 ≤ d) (d1 : d ≤ 1000000000000) (r0 : -500000 ≤ r) (r1 : r ≤ 500000) : -1000000000 ≤ gain d r ∧ gain d r ≤ 1000000000 := by
  have h1 := mul_bd (a := d / 1000000000) (A := 1000) (by omega) (by omega) r0 r1 (by omega)
  have h2 := mul_bd (a := d % 1000000000) (A := 1000000000) (by omega) (by omega) r0 r1 (by omega)
  unfold gain
  omega
theorem stampI_in {v : Int} (h0 : 0 ≤ v) (h1 : v ≤ 4000000000000000) : stampI v = v := by unfold stampI cut3; omega
theorem rateI_in {v : Int} (h0 : -512000 ≤ v) (h1 : v ≤ 512000) : rateI v = v := by unfold rateI cut3; omega
theorem time_in {o : Oc} {t : Int} (h0 : o.at_ ≤ t) (h1 : t ≤ 4000000000000000) : o.time t = t := by unfold Oc.time cut3; omega

/-- Steered against its rate: it goes on as true time does. -/
theorem steered {l r x y : Int} (l0 : 0 ≤ l) (l1 : l < 1000000000000000) (r0 : -500000 ≤ r) (r1 : r ≤ 500000) (x0 : 0 ≤ x) (x1 : x ≤ 1000000000000) (y0 : 0 ≤ y) (y1 : y ≤ 1000000000000) :
    (Oc.new l r).setFreq x (-r) = ⟨x, (Oc.new l r).read x, r, -r⟩ ∧ (⟨x, (Oc.new l r).read x, r, -r⟩ : Oc).read x = (Oc.new l r).read x ∧ (⟨x, (Oc.new l r).read x, r, -r⟩ : Oc).read (x + y) = (Oc.new l r).read x + y ∧
    0 ≤ (Oc.new l r).read x ∧ (Oc.new l r).read x ≤ 1100000000000000 := by
  have hn : Oc.new l r = ⟨0, l, r, 0⟩ := by unfold Oc.new; rw [stampI_in l0 (by omega), rateI_in (by omega) (by omega)]
  rw [hn]
  have ht : (⟨0, l, r, 0⟩ : Oc).time x = x := time_in x0 (by omega)
  have hg := gain_bd x0 x1 r0 r1
  have hb := read_bd ⟨0, l, r, 0⟩ x
  have hr : (⟨0, l, r, 0⟩ : Oc).read x ≤ 1100000000000000 := by
    unfold Oc.read Oc.ago
    rw [ht]
    dsimp only
    rw [Int.sub_zero, Int.add_zero]
    unfold stampI cut3
    omega
  have hx : ∀ v z : Int, 0 ≤ v → 0 ≤ z → z ≤ 1000000000000 → v ≤ 1100000000000000 → (⟨x, v, r, -r⟩ : Oc).read (x + z) = v + z := by
    intro v z v0 z0 z1 v1
    unfold Oc.read Oc.ago
    rw [time_in (by dsimp only; omega) (by omega)]
    dsimp only
    rw [show r + -r = 0 from by omega, gain_zero, Int.add_zero, stampI_in (by omega) (by omega)]
    omega
  refine ⟨?_, ?_, hx _ y hb.1 y0 y1 hr, hb.1, hr⟩
  · unfold Oc.setFreq Oc.anchor
    dsimp only
    rw [ht, rateI_in (by omega) (by omega)]
  · have := hx _ 0 hb.1 (by omega) (by omega) hr
    rw [Int.add_zero, Int.add_zero] at this
    exact this

set_option maxRecDepth 100000 in
theorem oscSteers_walk (a0 : Int) (a1 : Int) (a2 : Int) (a3 : Int) (_ : (Lit.int .i64 a0).wf = true) (_ : (Lit.int .i64 a1).wf = true) (_ : (Lit.int .i64 a2).wf = true) (_ : (Lit.int .i64 a3).wf = true) (w : World) :
    Calls Try.prog 4 #[.int .i64 a0, .int .i64 a1, .int .i64 a2, .int .i64 a3] w fun e w' => e = .returned (.bool true) ∧ Below w.heap.size w w' := by
  have p0 := Int.emod_nonneg a0 (b := 1000000000000000) (by omega)
  have p1 := Int.emod_lt_of_pos a0 (b := 1000000000000000) (by omega)
  have q0 := Int.emod_nonneg a1 (b := 1000001) (by omega)
  have q1 := Int.emod_lt_of_pos a1 (b := 1000001) (by omega)
  have s0 := Int.emod_nonneg a2 (b := 1000000) (by omega)
  have s1 := Int.emod_lt_of_pos a2 (b := 1000000) (by omega)
  have t0 := Int.emod_nonneg a3 (b := 1000000) (by omega)
  have t1 := Int.emod_lt_of_pos a3 (b := 1000000) (by omega)
  go_enter Try.func4, Try.ntmps4
  go_wp2_with fail
  refine (place_any _ _ _ (by omega) (by omega)).mono ?_
  rintro e u1 ⟨rfl, rfl⟩
  generalize a0 % 1000000000000000 = l at *
  go_wp2_with fail
  refine (place_any _ _ _ (by omega) (by omega)).mono ?_
  rintro e u1 ⟨rfl, rfl⟩
  go_wp2_with fail
  have r0 : -500000 ≤ a1 % 1000001 - 500000 := by omega
  have r1 : a1 % 1000001 - 500000 ≤ 500000 := by omega
  generalize a1 % 1000001 - 500000 = r at *
  refine (new_any _ _ _).mono ?_
  rintro e u1 ⟨rfl, hb1, hg1⟩
  go_wp2_with fail
  refine (place_any _ _ _ (by omega) (by omega)).mono ?_
  rintro e u2 ⟨rfl, rfl⟩
  go_wp2_with fail
  have x0 : 0 ≤ a2 % 1000000 * 1000000 := by omega
  have x1 : a2 % 1000000 * 1000000 ≤ 1000000000000 := by omega
  generalize a2 % 1000000 * 1000000 = x at *
  have y0 : 0 ≤ a3 % 1000000 * 1000000 := by omega
  have y1 : a3 % 1000000 * 1000000 ≤ 1000000000000 := by omega
  obtain ⟨c1, c2, c3, c4, c5⟩ := steered p0 p1 r0 r1 x0 x1 y0 y1
  refine (read_any _ _ _ _ hb1 (new_ok _ _)).mono ?_
  rintro e w2 ⟨rfl, n, rfl⟩
  have hb2 := Blk.drewN hb1 n
  have hg2 := gb_drewN hg1 n
  generalize u1.drewN n = u2 at *
  have C1 := hide c1
  have C2 := hide c2
  have C3 := hide c3
  clear c1 c2 c3 hb1 hg1
  go_wp2_with fail
  refine (setFreq_any _ _ _ _ _ hb2 (new_ok _ _)).mono ?_
  rintro e u3 ⟨rfl, hb3, hg3⟩
  rw [C1.out] at hb3
  have g3 := gb_young hg2 hg3 (Nat.le_refl _)
  clear hb2 hg2 hg3
  have hok : Oc.Ok ⟨x, (Oc.new l r).read x, r, -r⟩ := ⟨⟨x0, by dsimp only; omega⟩, ⟨c4, by dsimp only; omega⟩, ⟨by dsimp only; omega, by dsimp only; omega⟩, ⟨by dsimp only; omega, by dsimp only; omega⟩⟩
  have HOK := hide hok
  clear hok
  generalize (Oc.new l r).read x = v at *
  go_wp2_with fail
  refine (place_any _ _ _ (by omega) (by omega)).mono ?_
  rintro e u4 ⟨rfl, rfl⟩
  clear s0 s1 q0 q1
  go_wp2_with fail
  refine (read_any _ _ _ _ hb3 HOK.out).mono ?_
  rintro e w4 ⟨rfl, n4, rfl⟩
  rw [C2.out]
  have hb4 := Blk.drewN hb3 n4
  have hg4 := gb_drewN g3 n4
  generalize u3.drewN n4 = u4 at *
  clear hb3 g3
  go_wp2_with fail
  refine (read_any _ _ _ _ hb4 HOK.out).mono ?_
  rintro e w4 ⟨rfl, n5, rfl⟩
  rw [C3.out]
  have hb5 := Blk.drewN hb4 n5
  have hg5 := gb_drewN hg4 n5
  generalize u4.drewN n5 = u5 at *
  clear hb4 hg4
  go_wp2_with fail
  refine (getRate_any _ _ _ hb5).mono ?_
  rintro e u6 ⟨rfl, rfl⟩
  go_wp2_with fail
  refine (getFreq_any _ _ _ hb5).mono ?_
  rintro e u6 ⟨rfl, rfl⟩
  go_wp2_with fail
  refine (awake_any _).mono ?_
  rintro e u7 ⟨rfl, hg7⟩
  go_wp2
  go_ret
  exact ⟨rfl, below_of_gb (gb_trans hg5 hg7)⟩
end Go.Proofs.Ytagpcmhannmaeaa
