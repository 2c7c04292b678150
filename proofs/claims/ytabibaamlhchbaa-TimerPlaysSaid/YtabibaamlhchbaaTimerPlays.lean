/- The walk of TimerPlays. -/
import Derived.Test.YtabibaamlhchbaaTimer
namespace Go.Proofs.Ytabibaamlhchbaa
open Go.RowKit

def RefAt (w : World) (b : Nat) (n : Int) : Prop := Blk w b 58 #[.int .i64 n]

theorem rstart_any (b : Nat) (m n : Int) (w : World) (hb : RefAt w b m) :
    Calls Try.prog 25 #[.pointer (some ⟨b, 0, none⟩), .int .i64 n] w fun e w' => e = .returned (.tuple #[]) ∧ RefAt w' b (cutN n) ∧ w.grownBy w' (some b) := by
  have hc : w.cell? ⟨b, 0, none⟩ = some (.int .i64 m) := by simpa using Blk.cell hb 0
  have hf := Blk.free hb 0
  go_enter Try.func25, Try.ntmps25
  go_wp2
  all_goals
    go_end0
    first
      | (have : cutN n = 1073741824 := by unfold cutN; omega
         rw [this]
         exact ⟨rfl, Blk.set hb 0 _, gb_set (gb_refl _ _) _ _⟩)
      | (have : cutN n = n := by unfold cutN; omega
         rw [this]
         exact ⟨rfl, Blk.set hb 0 _, gb_set (gb_refl _ _) _ _⟩)
      | (have : cutN n = 1 := by unfold cutN; omega
         rw [this]
         exact ⟨rfl, Blk.set hb 0 _, gb_set (gb_refl _ _) _ _⟩)

theorem rtick_none (b : Nat) (w : World) (hb : RefAt w b 0) :
    Calls Try.prog 27 #[.pointer (some ⟨b, 0, none⟩)] w fun e w' => e = .returned (.bool false) ∧ RefAt w' b 0 ∧ w.grownBy w' (some b) := by
  have hc : w.cell? ⟨b, 0, none⟩ = some (.int .i64 0) := by simpa using Blk.cell hb 0
  go_enter Try.func27, Try.ntmps27
  go_wp2
  go_ret
  exact ⟨rfl, hb, gb_refl _ _⟩
theorem rtick_some (b : Nat) (m : Int) (w : World) (hb : RefAt w b m) (hm0 : 1 ≤ m) (hm1 : m ≤ 1073741824) :
    Calls Try.prog 27 #[.pointer (some ⟨b, 0, none⟩)] w fun e w' => e = .returned (.bool (decide (m = 1))) ∧ RefAt w' b (m - 1) ∧ w.grownBy w' (some b) := by
  have hc : w.cell? ⟨b, 0, none⟩ = some (.int .i64 m) := by simpa using Blk.cell hb 0
  have hf := Blk.free hb 0
  have h0 : (m == 0) = false := by rw [beq_eq_false_iff_ne]; omega
  go_enter Try.func27, Try.ntmps27
  go_wp2
  go_ret
  exact ⟨ret_bool (by rw [Bool.eq_iff_iff]; simp; omega), Blk.set hb 0 _, gb_set (gb_refl _ _) _ _⟩

/-- Both timers say n; they are two. -/
def Two (w0 w : World) (B B' : Nat) (n : Int) : Prop := TimerAt w B n ∧ RefAt w B' n ∧ 0 ≤ n ∧ n ≤ 1073741824 ∧ w0.grownBy w none ∧ w0.heap.size ≤ B ∧ w0.heap.size ≤ B' ∧ B ≠ B'
theorem Two.step {w0 w w1 w2 : World} {B B' : Nat} {n m : Int} (h : Two w0 w B B' n) (h1 : TimerAt w1 B m) (g1 : w.grownBy w1 (some B)) (h2 : RefAt w2 B' m) (g2 : w1.grownBy w2 (some B')) (hm0 : 0 ≤ m) (hm1 : m ≤ 1073741824) : Two w0 w2 B B' m := by
  obtain ⟨_, _, _, _, hg, hB, hB', hne⟩ := h
  exact ⟨Blk.other h1 g2 (by simpa using hne), h2, hm0, hm1, gb_young (gb_young hg g1 hB) g2 hB', hB, hB', hne⟩
theorem Two.ref {w0 w w1 : World} {B B' : Nat} {n : Int} (h : Two w0 w B B' n) (g1 : w.grownBy w1 (some B)) : RefAt w1 B' n := by
  obtain ⟨_, h2, _, _, hg, hB, hB', hne⟩ := h
  exact Blk.other h2 g1 (by simpa using hne.symm)

theorem Two.drewN {w0 w : World} {B B' : Nat} {n : Int} (h : Two w0 w B B' n) (k : Nat) : Two w0 (w.drewN k) B B' n := ⟨Blk.drewN h.1 k, Blk.drewN h.2.1 k, h.2.2.1, h.2.2.2.1, gb_drewN h.2.2.2.2.1 k, h.2.2.2.2.2⟩

set_option maxRecDepth 100000 in
theorem timerPlays_walk (a0 : Option Addr) (len0 cap0 : Nat) (z0 : List Int) (a1 : Option Addr) (len1 cap1 : Nat) (z1 : List Int) (w : World) (w0 : IsRow .i64 w a0 len0 cap0 z0) (w1 : IsRow .i64 w a1 len1 cap1 z1) :
    Calls Try.prog 8 #[.slice a0 len0 cap0, .slice a1 len1 cap1] w fun e w' => e = .returned (.bool true) ∧ Below w.heap.size w w' := by
  have l0 := row_len w0
  have l1 := row_len w1
  go_enter Try.func8, Try.ntmps8
  go_wp2_with fail
  refine (new_any _).mono ?_
  rintro e u1 ⟨rfl, hb1, hg1⟩
  have h2 : Two w (u1.alloc (.cells #[.int .i64 0] 58)) w.heap.size u1.heap.size 0 := ⟨hb1.alloc _, Blk.new _ _ _, by omega, by omega, gb_alloc hg1 _, Nat.le_refl _, Nat.le_of_lt hb1.lt, Nat.ne_of_lt hb1.lt⟩
  clear hb1 hg1
  go_wp2_with fail
  go_loopw [7] (fun i wr => ∃ (k : Nat) (n : Int), i = .int .i64 k ∧ k ≤ len0 ∧ k ≤ 200 ∧ Two w wr w.heap.size u1.heap.size n) (fun i _ => 200 - (intOf i).toNat)
  case atStart => exact ⟨0, 0, rfl, by omega, by omega, h2⟩
  case round =>
    obtain ⟨k, n, rfl, hk0, hk1, hi⟩ := hrel
    clear h2
    by_cases hk : k < len0
    · obtain ⟨b, off, rfl, hz, hbw, hrow⟩ := row_open w0 (by omega)
      by_cases hk2 : k < 200
      · have hr := hrow.kept hi.2.2.2.2.1
        have hc := (hr k (by omega)).1
        clear hr
        by_cases hk3 : k < len1
        · obtain ⟨b1, off1, rfl, hz1, hbw1, hrow1⟩ := row_open w1 (by omega)
          have hc1 := ((hrow1.kept hi.2.2.2.2.1) k (by omega)).1
          go_wp2_with fail
          refine (place_any _ _ _ (by omega) (by omega)).mono ?_
          rintro e w4 ⟨rfl, rfl⟩
          go_wp2_with fail
          · refine (start_any _ _ _ _ hi.1).mono ?_
            rintro e w4 ⟨rfl, hb4, hg4⟩
            go_wp2_with fail
            refine (rstart_any _ _ _ _ (hi.ref hg4)).mono ?_
            rintro e w5 ⟨rfl, hb5, hg5⟩
            have hj := hi.step hb4 hg4 hb5 hg5 (by have := cutN_lo (z1[k]?.getD 0); omega) (cutN_lo _).2
            generalize cutN (z1[k]?.getD 0) = n' at *
            clear hi hb4 hg4 hb5 hg5
            have hcr : w5.cell? ⟨u1.heap.size, 0, none⟩ = some (.int .i64 n') := by simpa using Blk.cell hj.2.1 0
            go_wp2_with fail
            go_quiet ((go_at_call 24; exact quiet_left (left_any _ _ _ (Blk.drewN hj.1 _))))
            go_wp2
            exact ⟨⟨k + 1, n', by go_num, by omega, by omega, hj.drewN _⟩, by simp [intOf]; omega⟩
          · refine (stop_any _ _ _ hi.1).mono ?_
            rintro e w4 ⟨rfl, hb4, hg4⟩
            have hr4 := hi.ref hg4
            have hcr : w4.cell? ⟨u1.heap.size, 0, none⟩ = some (.int .i64 n) := by simpa using Blk.cell hr4 0
            have hfr := Blk.free hr4 0
            have hj := hi.step hb4 hg4 (Blk.set hr4 0 (.int .i64 0)) (gb_set (gb_refl _ _) 0 _) (by omega) (by omega)
            clear hi hb4 hg4 hr4
            have hcr2 : (w4.setCell ⟨u1.heap.size, 0, none⟩ (.int .i64 0)).cell? ⟨u1.heap.size, 0, none⟩ = some (.int .i64 0) := by simpa using Blk.cell hj.2.1 0
            go_wp2_with fail
            go_quiet ((go_at_call 24; exact quiet_left (left_any _ _ _ (Blk.drewN hj.1 _))))
            go_wp2
            exact ⟨⟨k + 1, 0, by go_num, by omega, by omega, hj.drewN _⟩, by simp [intOf]; omega⟩
          · rcases (show n = 0 ∨ 1 ≤ n from by have := hi.2.2.1; omega) with hn | hn
            · subst hn
              refine (tick_stopped _ _ hi.1).mono ?_
              rintro e w4 ⟨rfl, hb4, hg4⟩
              go_wp2_with fail
              refine (rtick_none _ _ (hi.ref hg4)).mono ?_
              rintro e w5 ⟨rfl, hb5, hg5⟩
              have hj := hi.step hb4 hg4 hb5 hg5 (by omega) (by omega)
              clear hi hb4 hg4 hb5 hg5
              have hcr : w5.cell? ⟨u1.heap.size, 0, none⟩ = some (.int .i64 0) := by simpa using Blk.cell hj.2.1 0
              go_wp2_with fail
              go_quiet ((go_at_call 24; exact quiet_left (left_any _ _ _ (Blk.drewN hj.1 _))))
              go_wp2
              exact ⟨⟨k + 1, 0, by go_num, by omega, by omega, hj.drewN _⟩, by simp [intOf]; omega⟩
            · have hn2 := hi.2.2.2.1
              have ht := tick_any _ _ _ hi.1 (by omega) hn2
              rw [if_neg (by omega)] at ht
              refine ht.mono ?_
              clear ht
              rintro e w4 ⟨rfl, hb4, hg4⟩
              go_wp2_with fail
              refine (rtick_some _ _ _ (hi.ref hg4) hn hn2).mono ?_
              rintro e w5 ⟨rfl, hb5, hg5⟩
              have hj := hi.step hb4 hg4 hb5 hg5 (by omega) (by omega)
              clear hi hb4 hg4 hb5 hg5
              have hcr : w5.cell? ⟨u1.heap.size, 0, none⟩ = some (.int .i64 (n - 1)) := by simpa using Blk.cell hj.2.1 0
              go_wp2_with fail
              go_quiet ((go_at_call 24; exact quiet_left (left_any _ _ _ (Blk.drewN hj.1 _))))
              go_wp2
              exact ⟨⟨k + 1, n - 1, by go_num, by omega, by omega, hj.drewN _⟩, by simp [intOf]; omega⟩
        · go_wp2_with fail
          refine (place_any _ _ _ (by omega) (by omega)).mono ?_
          rintro e w4 ⟨rfl, rfl⟩
          go_wp2_with fail
          · refine (start_any _ _ _ _ hi.1).mono ?_
            rintro e w4 ⟨rfl, hb4, hg4⟩
            go_wp2_with fail
            refine (rstart_any _ _ _ _ (hi.ref hg4)).mono ?_
            rintro e w5 ⟨rfl, hb5, hg5⟩
            have hj := hi.step hb4 hg4 hb5 hg5 (by have := cutN_lo (0); omega) (cutN_lo _).2
            generalize cutN (0) = n' at *
            clear hi hb4 hg4 hb5 hg5
            have hcr : w5.cell? ⟨u1.heap.size, 0, none⟩ = some (.int .i64 n') := by simpa using Blk.cell hj.2.1 0
            go_wp2_with fail
            go_quiet ((go_at_call 24; exact quiet_left (left_any _ _ _ (Blk.drewN hj.1 _))))
            go_wp2
            exact ⟨⟨k + 1, n', by go_num, by omega, by omega, hj.drewN _⟩, by simp [intOf]; omega⟩
          · refine (stop_any _ _ _ hi.1).mono ?_
            rintro e w4 ⟨rfl, hb4, hg4⟩
            have hr4 := hi.ref hg4
            have hcr : w4.cell? ⟨u1.heap.size, 0, none⟩ = some (.int .i64 n) := by simpa using Blk.cell hr4 0
            have hfr := Blk.free hr4 0
            have hj := hi.step hb4 hg4 (Blk.set hr4 0 (.int .i64 0)) (gb_set (gb_refl _ _) 0 _) (by omega) (by omega)
            clear hi hb4 hg4 hr4
            have hcr2 : (w4.setCell ⟨u1.heap.size, 0, none⟩ (.int .i64 0)).cell? ⟨u1.heap.size, 0, none⟩ = some (.int .i64 0) := by simpa using Blk.cell hj.2.1 0
            go_wp2_with fail
            go_quiet ((go_at_call 24; exact quiet_left (left_any _ _ _ (Blk.drewN hj.1 _))))
            go_wp2
            exact ⟨⟨k + 1, 0, by go_num, by omega, by omega, hj.drewN _⟩, by simp [intOf]; omega⟩
          · rcases (show n = 0 ∨ 1 ≤ n from by have := hi.2.2.1; omega) with hn | hn
            · subst hn
              refine (tick_stopped _ _ hi.1).mono ?_
              rintro e w4 ⟨rfl, hb4, hg4⟩
              go_wp2_with fail
              refine (rtick_none _ _ (hi.ref hg4)).mono ?_
              rintro e w5 ⟨rfl, hb5, hg5⟩
              have hj := hi.step hb4 hg4 hb5 hg5 (by omega) (by omega)
              clear hi hb4 hg4 hb5 hg5
              have hcr : w5.cell? ⟨u1.heap.size, 0, none⟩ = some (.int .i64 0) := by simpa using Blk.cell hj.2.1 0
              go_wp2_with fail
              go_quiet ((go_at_call 24; exact quiet_left (left_any _ _ _ (Blk.drewN hj.1 _))))
              go_wp2
              exact ⟨⟨k + 1, 0, by go_num, by omega, by omega, hj.drewN _⟩, by simp [intOf]; omega⟩
            · have hn2 := hi.2.2.2.1
              have ht := tick_any _ _ _ hi.1 (by omega) hn2
              rw [if_neg (by omega)] at ht
              refine ht.mono ?_
              clear ht
              rintro e w4 ⟨rfl, hb4, hg4⟩
              go_wp2_with fail
              refine (rtick_some _ _ _ (hi.ref hg4) hn hn2).mono ?_
              rintro e w5 ⟨rfl, hb5, hg5⟩
              have hj := hi.step hb4 hg4 hb5 hg5 (by omega) (by omega)
              clear hi hb4 hg4 hb5 hg5
              have hcr : w5.cell? ⟨u1.heap.size, 0, none⟩ = some (.int .i64 (n - 1)) := by simpa using Blk.cell hj.2.1 0
              go_wp2_with fail
              go_quiet ((go_at_call 24; exact quiet_left (left_any _ _ _ (Blk.drewN hj.1 _))))
              go_wp2
              exact ⟨⟨k + 1, n - 1, by go_num, by omega, by omega, hj.drewN _⟩, by simp [intOf]; omega⟩
      · go_wp2_with fail
        refine (awake_any _).mono ?_
        rintro e w4 ⟨rfl, hg4⟩
        go_wp2
        go_ret
        exact ⟨rfl, below_of_gb (gb_trans hi.2.2.2.2.1 hg4)⟩
    · go_wp2_with fail
      refine (awake_any _).mono ?_
      rintro e w4 ⟨rfl, hg4⟩
      go_wp2
      go_ret
      exact ⟨rfl, below_of_gb (gb_trans hi.2.2.2.2.1 hg4)⟩
end Go.Proofs.Ytabibaamlhchbaa
