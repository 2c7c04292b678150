/- The walk of ServoFirst. -/
import Derived.Test.YtjbkffhbgcoliaaSample
namespace Go.Proofs.Ytjbkffhbgcoliaa
open Go.RowKit

set_option maxRecDepth 100000 in
theorem servoFirst_walk (a0 : Int) (a1 : Int) (a2 : Int) (a3 : Int) (a4 : Option Addr) (len4 cap4 : Nat) (z4 : List Int) (w : World) (_ : (Lit.int .i64 a0).wf = true) (_ : (Lit.int .i64 a1).wf = true) (_ : (Lit.int .i64 a2).wf = true) (_ : (Lit.int .i64 a3).wf = true) (w4 : IsRow .i64 w a4 len4 cap4 z4) :
    Calls Try.prog 6 #[.int .i64 a0, .int .i64 a1, .int .i64 a2, .int .i64 a3, .slice a4 len4 cap4] w fun e w' => e = .returned (.bool true) ∧ Below w.heap.size w w' := by
  have l0 := row_len w4
  have p0 := Int.emod_nonneg a3 (b := 2251799813685248) (by omega)
  have p1 := Int.emod_lt_of_pos a3 (b := 2251799813685248) (by omega)
  go_enter Try.func6, Try.ntmps6
  go_wp2_with fail
  refine (new_any _ _ _ _).mono ?_
  rintro e w1 ⟨rfl, hb1, hg1⟩
  go_wp2_with fail
  refine (new_any _ _ _ _).mono ?_
  rintro e w2 ⟨rfl, hb2, hg2⟩
  have hz2 : SvAt w2 w1.heap.size ⟨clampI a0 2000, clampI a1 2000, 0, 0, 0, 0, 0⟩ := hb2
  have hs2 : SvAt w2 w.heap.size (Sv.new a0 a1 a2) := Blk.other hb1 hg2 (by simp)
  have g2 := gb_trans hg1 hg2
  have hlt := hb1.lt
  clear hb1 hb2 hg1 hg2
  go_wp2_with fail
  refine (place_any _ _ _ (by omega) (by omega)).mono ?_
  rintro e w3 ⟨rfl, rfl⟩
  generalize a3 % 2251799813685248 = q at *
  go_wp2_with fail
  have hset : IsSet (Sv.new a0 a1 a2) (q - 1125899906842624) := .inl rfl
  have hS := sample_is w.heap.size (q - 1125899906842624) _ w2 0 hs2 (new_ok _ _ _) (by omega) (q - 1125899906842624) (cutI_in (by omega) (by omega)) (y := -(q - 1125899906842624)) (t := true) (f := 0) (s' := (Sv.new a0 a1 a2).set)
    (by unfold Sv.by; rw [if_pos hset]) (by simpa using hset) (by unfold Sv.fr; rw [if_pos hset]; rfl) (by unfold Sv.next; rw [if_pos hset])
  clear hset
  refine hS.mono ?_
  clear hS
  rintro e w3 ⟨rfl, hb3, hg3⟩
  have hz3 := svAt_other hz2 hg3 (Nat.ne_of_gt hlt)
  have g3 := gb_young g2 hg3 (Nat.le_refl _)
  clear hz2 hs2 g2 hg3
  go_wp2_with fail
  refine (state_any _ _ _ hb3).mono ?_
  rintro e w5 ⟨rfl, rfl⟩
  rw [show (Sv.new a0 a1 a2).set.st = 1 from rfl]
  go_wp2_with fail
  clear hb3
  go_loopw [17] (fun i wr => ∃ (k : Nat) (st : Int), i = .int .i64 k ∧ k ≤ len4 ∧ k ≤ 30 ∧ 0 ≤ st ∧ st ≤ 2 ∧ SvAt wr w1.heap.size ⟨clampI a0 2000, clampI a1 2000, 0, st, 0, 0, 0⟩ ∧ w.grownBy wr none) (fun i _ => 30 - (intOf i).toNat)
  case atStart => exact ⟨0, 0, rfl, by omega, by omega, by omega, by omega, hz3, g3⟩
  case round =>
    obtain ⟨k, st, rfl, hk0, hk1, hst0, hst1, hb, hg⟩ := hrel
    clear hz3 g3
    by_cases hk : k < len4
    · obtain ⟨b, off, rfl, hz, hbw, hrow⟩ := row_open w4 (by omega)
      by_cases hk2 : k < 30
      · have hc := ((hrow.kept hg) k (by omega)).1
        go_wp2_with fail
        refine (place_any _ _ _ (by omega) (by omega)).mono ?_
        rintro e w5 ⟨rfl, rfl⟩
        clear hc
        have r0 := Int.emod_nonneg (z4[k]?.getD 0) (b := 2251799813685248) (by omega)
        have r1 := Int.emod_lt_of_pos (z4[k]?.getD 0) (b := 2251799813685248) (by omega)
        generalize z4[k]?.getD 0 % 2251799813685248 = x at *
        go_wp2_with fail
        have hset : IsSet ⟨clampI a0 2000, clampI a1 2000, 0, st, 0, 0, 0⟩ (x - 1125899906842624) := .inr (.inl rfl)
        have hok : Sv.Ok ⟨clampI a0 2000, clampI a1 2000, 0, st, 0, 0, 0⟩ 0 := by
          refine ⟨?_, ?_, ?_, ?_, ?_, ?_, ?_⟩ <;> simp only [clampI] <;> omega
        have hS := sample_is w1.heap.size (x - 1125899906842624) _ wr 0 hb hok (by omega) (x - 1125899906842624) (cutI_in (by omega) (by omega)) (y := -(x - 1125899906842624)) (t := true) (f := 0) (s' := ⟨clampI a0 2000, clampI a1 2000, 0, 1, 0, 0, 0⟩)
          (by unfold Sv.by; rw [if_pos hset]) (by simpa using hset) (by unfold Sv.fr; rw [if_pos hset]) (by unfold Sv.next; rw [if_pos hset]; rfl)
        clear hset hok
        refine hS.mono ?_
        clear hS
        rintro e w3 ⟨rfl, hb3, hg3⟩
        have g3 := gb_young hg hg3 (Nat.le_of_lt hlt)
        clear hb hg hg3
        go_wp2_with fail
        refine (drift_any _ _ _ hb3).mono ?_
        rintro e w5 ⟨rfl, rfl⟩
        go_wp2
        exact ⟨⟨k + 1, 1, by go_num, by omega, by omega, by omega, by omega, hb3, g3⟩, by simp [intOf]; omega⟩
      · go_wp2_with fail
        refine (awake_any _).mono ?_
        rintro e w5 ⟨rfl, hg5⟩
        go_wp2
        go_ret
        exact ⟨rfl, below_of_gb (gb_trans hg hg5)⟩
    · go_wp2_with fail
      refine (awake_any _).mono ?_
      rintro e w5 ⟨rfl, hg5⟩
      go_wp2
      go_ret
      exact ⟨rfl, below_of_gb (gb_trans hg hg5)⟩
end Go.Proofs.Ytjbkffhbgcoliaa
