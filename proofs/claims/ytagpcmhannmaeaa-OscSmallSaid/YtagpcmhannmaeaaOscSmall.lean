/- The walk of OscSmall. -/
import Derived.Test.YtagpcmhannmaeaaStep
namespace Go.Proofs.Ytagpcmhannmaeaa
open Go.RowKit

theorem gain_floor {d r : Int} : gain d r = d * r / 1000000000 := by
  have h : d * r = d % 1000000000 * r + d / 1000000000 * r * 1000000000 := by
    have := Int.emod_add_mul_ediv d 1000000000
    rw [Int.mul_assoc, Int.mul_comm r, ← Int.mul_assoc, ← Int.add_mul, Int.mul_comm (d / 1000000000), this]
  rw [h, Int.add_mul_ediv_right _ _ (by omega)]
  unfold gain
  omega
theorem gain_next {d r : Int} (r0 : -1024000 ≤ r) (r1 : r ≤ 1024000) : gain d r - 1 ≤ gain (d + 1) r ∧ gain (d + 1) r ≤ gain d r + 1 := by
  rw [gain_floor, gain_floor, Int.add_mul, Int.one_mul]
  omega

theorem read_next {o : Oc} (h : o.Ok) {t : Int} (h0 : o.at_ ≤ t) : o.read t ≤ o.read (t + 1) ∧ o.read (t + 1) ≤ o.read t + 2 := by
  have ho := h.at_
  have hr := h.rate
  have hf := h.freq
  have hg := gain_next (d := o.ago t) (r := o.rate + o.freq) (by omega) (by omega)
  have ht : o.ago (t + 1) = o.ago t + 1 ∨ o.ago (t + 1) = o.ago t := by
    unfold Oc.ago Oc.time cut3
    omega
  unfold Oc.read
  rcases ht with e | e
  · rw [e]
    unfold stampI cut3
    omega
  · rw [e]
    omega

set_option maxRecDepth 100000 in
theorem oscSmall_walk (a0 : Int) (a1 : Int) (a2 : Int) (a3 : Int) (_ : (Lit.int .i64 a0).wf = true) (_ : (Lit.int .i64 a1).wf = true) (_ : (Lit.int .i64 a2).wf = true) (_ : (Lit.int .i64 a3).wf = true) (w : World) :
    Calls Try.prog 5 #[.int .i64 a0, .int .i64 a1, .int .i64 a2, .int .i64 a3] w fun e w' => e = .returned (.bool true) ∧ Below w.heap.size w w' := by
  have s0 := Int.emod_nonneg a3 (b := 1099511627776) (by omega)
  have s1 := Int.emod_lt_of_pos a3 (b := 1099511627776) (by omega)
  go_enter Try.func5, Try.ntmps5
  go_wp2_with fail
  refine (place_any _ _ _ (by omega) (by omega)).mono ?_
  rintro e u1 ⟨rfl, rfl⟩
  go_wp2_with fail
  refine (new_any _ _ _).mono ?_
  rintro e u1 ⟨rfl, hb1, hg1⟩
  have hok0 := new_ok (a0 % 1000000000000000) a1
  have hat0 : (Oc.new (a0 % 1000000000000000) a1).at_ = 0 := rfl
  generalize Oc.new (a0 % 1000000000000000) a1 = o0 at *
  go_wp2_with fail
  refine (setFreq_any _ _ _ _ _ hb1 hok0).mono ?_
  rintro e u2 ⟨rfl, hb2, hg2⟩
  have g2 := gb_young hg1 hg2 (Nat.le_refl _)
  have hok := hok0.setFreq 0 a2
  have hat : (o0.setFreq 0 a2).at_ = 0 := by
    unfold Oc.setFreq Oc.anchor Oc.time cut3
    dsimp only
    omega
  generalize o0.setFreq 0 a2 = o at *
  have HOK := hide hok
  have HAT := hide hat
  clear hb1 hg1 hg2 hok hat hok0 hat0
  go_wp2_with fail
  refine (place_any _ _ _ (by omega) (by omega)).mono ?_
  rintro e u3 ⟨rfl, rfl⟩
  generalize a3 % 1099511627776 = x at *
  go_wp2_with fail
  refine (read_any _ _ _ _ hb2 HOK.out).mono ?_
  rintro e w3 ⟨rfl, n, rfl⟩
  have hb3 := Blk.drewN hb2 n
  have hg3 := gb_drewN g2 n
  generalize u2.drewN n = u3 at *
  clear hb2 g2
  go_wp2_with fail
  go_loopw [11, 12] (fun v i wr => ∃ j : Int, i = .int .i64 j ∧ v = .int .i64 (o.read (x + (j - 1))) ∧ 1 ≤ j ∧ j ≤ 21 ∧ OsAt 40 wr w.heap.size o ∧ w.grownBy wr none) (fun _ i _ => (21 - intOf i).toNat)
  case atStart => exact ⟨1, rfl, by rw [show x + (1 - 1) = x from by omega], by omega, by omega, hb3, hg3⟩
  case round =>
    obtain ⟨j, rfl, rfl, hj0, hj1, hb, hg⟩ := hrel
    clear hb3 hg3
    have hrb := read_bd o (x + (j - 1))
    by_cases hj : j ≤ 20
    · go_wp2_with fail
      refine (read_any _ _ _ _ hb HOK.out).mono ?_
      rintro e w3 ⟨rfl, n4, rfl⟩
      have hb4 := Blk.drewN hb n4
      have hg4 := gb_drewN hg n4
      generalize wr.drewN n4 = u4 at *
      clear hb hg
      have hn := read_next HOK.out (t := x + (j - 1)) (by rw [HAT.out]; omega)
      rw [show x + (j - 1) + 1 = x + j from by omega] at hn
      obtain ⟨h1, h2⟩ := hn
      generalize o.read (x + (j - 1)) = v at *
      go_wp2
      exact ⟨⟨j + 1, rfl, by rw [show x + (j + 1 - 1) = x + j from by omega], by omega, by omega, hb4, hg4⟩, by simp [intOf]; omega⟩
    · go_wp2_with fail
      refine (awake_any _).mono ?_
      rintro e u7 ⟨rfl, hg7⟩
      go_wp2
      go_ret
      exact ⟨rfl, below_of_gb (gb_trans hg hg7)⟩
end Go.Proofs.Ytagpcmhannmaeaa
