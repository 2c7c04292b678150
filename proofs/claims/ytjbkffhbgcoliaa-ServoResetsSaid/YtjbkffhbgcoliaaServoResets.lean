/- The walk of ServoResets. -/
import Derived.Test.YtjbkffhbgcoliaaReset
namespace Go.Proofs.Ytjbkffhbgcoliaa
open Go.RowKit

theorem new_again {s : Sv} {kp ki step : Int} (h1 : s.kp = clampI kp 2000) (h2 : s.ki = clampI ki 2000) (h3 : s.step = clampI step 1000000000) : Sv.new s.kp s.ki s.step = Sv.new kp ki step := by
  unfold Sv.new
  rw [h1, h2, h3]
  unfold clampI
  congr 1 <;> omega
theorem next_keeps (s : Sv) (o : Int) : (s.next o).kp = s.kp ∧ (s.next o).ki = s.ki ∧ (s.next o).step = s.step := by
  unfold Sv.next
  split <;> exact ⟨rfl, rfl, rfl⟩

/-- What it was made of has stayed. -/
def Made (s : Sv) (kp ki step : Int) : Prop := s.kp = clampI kp 2000 ∧ s.ki = clampI ki 2000 ∧ s.step = clampI step 1000000000
theorem Made.next {s : Sv} {kp ki step : Int} (h : Made s kp ki step) (o : Int) : Made (s.next o) kp ki step := by
  obtain ⟨e1, e2, e3⟩ := next_keeps s o
  obtain ⟨h1, h2, h3⟩ := h
  exact ⟨e1.trans h1, e2.trans h2, e3.trans h3⟩

set_option maxHeartbeats 1000000 in
set_option maxRecDepth 100000 in
theorem servoResets_walk (a0 : Int) (a1 : Int) (a2 : Int) (a3 : Option Addr) (len3 cap3 : Nat) (z3 : List Int) (a4 : Option Addr) (len4 cap4 : Nat) (z4 : List Int) (w : World) (_ : (Lit.int .i64 a0).wf = true) (_ : (Lit.int .i64 a1).wf = true) (_ : (Lit.int .i64 a2).wf = true) (w3 : IsRow .i64 w a3 len3 cap3 z3) (w4 : IsRow .i64 w a4 len4 cap4 z4) :
    Calls Try.prog 8 #[.int .i64 a0, .int .i64 a1, .int .i64 a2, .slice a3 len3 cap3, .slice a4 len4 cap4] w fun e w' => e = .returned (.bool true) ∧ Below w.heap.size w w' := by
  have l3 := row_len w3
  have l4 := row_len w4
  go_enter Try.func8, Try.ntmps8
  go_wp2_with fail
  refine (new_any _ _ _ _).mono ?_
  rintro e u1 ⟨rfl, hb1, hg1⟩
  go_wp2_with fail
  refine (new_any _ _ _ _).mono ?_
  rintro e u2 ⟨rfl, hb2, hg2⟩
  have hs2 : SvAt u2 w.heap.size (Sv.new a0 a1 a2) := Blk.other hb1 hg2 (by simp)
  have g2 := gb_trans hg1 hg2
  have hlt := hb1.lt
  clear hb1 hg1 hg2
  go_wp2_with fail
  go_loopw [13] (fun i wr => ∃ (k : Nat) (s : Sv), i = .int .i64 k ∧ k ≤ len3 ∧ k ≤ 40 ∧ s.Ok k ∧ Made s a0 a1 a2 ∧ SvAt wr w.heap.size s ∧ SvAt wr u1.heap.size (Sv.new a0 a1 a2) ∧ w.grownBy wr none) (fun i _ => 40 - (intOf i).toNat)
  case atStart => exact ⟨0, _, rfl, by omega, by omega, new_ok _ _ _, ⟨rfl, rfl, rfl⟩, hs2, hb2, g2⟩
  case round =>
    obtain ⟨k, s, rfl, hk0, hk1, hok, hmade, hb, hc, hg⟩ := hrel
    clear hs2 hb2 g2
    by_cases hkk : k < len3 ∧ k < 40
    · obtain ⟨hk, hk2⟩ := hkk
      obtain ⟨b, off, rfl, hz, hbw, hrow⟩ := row_open w3 (by omega)
      have hcell := ((hrow.kept hg) k (by omega)).1
      go_wp2_with fail
      refine (sample_any _ _ _ _ _ hb hok (by omega) _ rfl).mono ?_
      rintro e u5 ⟨rfl, hb5, hg5⟩
      have hc5 := svAt_other hc hg5 (Nat.ne_of_gt hlt)
      have g5 := gb_young hg hg5 (Nat.le_refl _)
      clear hcell hb hc hg hg5
      go_wp2
      exact ⟨⟨k + 1, _, by go_num, by omega, by omega, next_ok hok (by omega) _, hmade.next _, hb5, hc5, g5⟩, by simp [intOf]; omega⟩
    · rcases (show ¬ k < len3 ∨ (k < len3 ∧ ¬ k < 40) from by omega) with hx | ⟨hx, hy⟩ <;> go_wp2_with fail
      all_goals
        clear hx hkk
        refine (reset_any _ _ _ _ hb hok).mono ?_
        rintro e u5 ⟨rfl, hb5, hg5⟩
        rw [new_again hmade.1 hmade.2.1 hmade.2.2] at hb5
        have hc5 := svAt_other hc hg5 (Nat.ne_of_gt hlt)
        have g5 := gb_young hg hg5 (Nat.le_refl _)
        clear hb hc hg hg5 hok hmade
        go_wp2_with fail
        refine (state_any _ _ _ hb5).mono ?_
        rintro e u6 ⟨rfl, rfl⟩
        rw [show (Sv.new a0 a1 a2).st = 0 from rfl]
        go_wp2_with fail
        refine (freq_any _ _ _ hb5).mono ?_
        rintro e u6 ⟨rfl, rfl⟩
        rw [show (Sv.new a0 a1 a2).freq = 0 from rfl]
        go_wp2_with fail
        refine (drift_any _ _ _ hb5).mono ?_
        rintro e u6 ⟨rfl, rfl⟩
        rw [show (Sv.new a0 a1 a2).drift = 0 from rfl]
        go_wp2_with fail
        go_loopw [14] (fun i wr => ∃ (m : Nat) (s : Sv), i = .int .i64 m ∧ m ≤ len4 ∧ m ≤ 40 ∧ s.Ok m ∧ SvAt wr w.heap.size s ∧ SvAt wr u1.heap.size s ∧ w.grownBy wr none) (fun i _ => 40 - (intOf i).toNat)
        case atStart => exact ⟨0, _, rfl, by omega, by omega, new_ok _ _ _, hb5, hc5, g5⟩
        case round =>
          clear hb5 hc5 g5
          obtain ⟨m, t, rfl, hm0, hm1, hok, hb, hc, hg⟩ := hrel
          by_cases hmm : m < len4 ∧ m < 40
          · obtain ⟨hm, hm2⟩ := hmm
            obtain ⟨b, off, rfl, hz, hbw, hrow⟩ := row_open w4 (by omega)
            have hcell := ((hrow.kept hg) m (by omega)).1
            go_wp2_with fail
            refine (sample_any _ _ _ _ _ hb hok (by omega) _ rfl).mono ?_
            rintro e u5 ⟨rfl, hb5, hg5⟩
            have hc5 := svAt_other hc hg5 (Nat.ne_of_gt hlt)
            have g5 := gb_young hg hg5 (Nat.le_refl _)
            have hcell := ((hrow.kept g5) m (by omega)).1
            clear hb hc hg hg5
            go_wp2_with fail
            refine (sample_any _ _ _ _ _ hc5 hok (by omega) _ rfl).mono ?_
            rintro e u6 ⟨rfl, hc6, hg6⟩
            have hb6 := svAt_other hb5 hg6 (Nat.ne_of_lt hlt)
            have g6 := gb_young g5 hg6 (Nat.le_of_lt hlt)
            clear hb5 hc5 hg6 g5 hcell
            go_wp2_with fail
            refine (state_any _ _ _ hb6).mono ?_
            rintro e u6 ⟨rfl, rfl⟩
            go_wp2_with fail
            refine (state_any _ _ _ hc6).mono ?_
            rintro e u6 ⟨rfl, rfl⟩
            go_wp2
            exact ⟨⟨m + 1, _, by go_num, by omega, by omega, next_ok hok (by omega) _, hb6, hc6, g6⟩, by simp [intOf]; omega⟩
          · rcases (show ¬ m < len4 ∨ (m < len4 ∧ ¬ m < 40) from by omega) with hx | ⟨hx, hy⟩ <;> go_wp2_with fail
            all_goals
              refine (awake_any _).mono ?_
              rintro e u5 ⟨rfl, hg5⟩
              go_wp2
              go_ret
              exact ⟨rfl, below_of_gb (gb_trans hg hg5)⟩
end Go.Proofs.Ytjbkffhbgcoliaa
