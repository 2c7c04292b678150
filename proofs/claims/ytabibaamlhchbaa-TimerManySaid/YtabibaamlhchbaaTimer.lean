/- The contracts of timer.New, Start, Stop, Tick, Left, of Place and of the statements' 'awake' (layer 15). -/
import Derived.Test.YtabibaamlhchbaaObj
namespace Go.Proofs.Ytabibaamlhchbaa
open Go.RowKit

theorem emod_of_tmod {v n : Int} (hn : 0 < n) : (v.tmod n < 0 → v.tmod n + n = v % n) ∧ (0 ≤ v.tmod n → v.tmod n = v % n) := by
  have h1 := Int.tmod_add_mul_tdiv v n
  have h2 := Int.emod_add_mul_ediv v n
  have h3 := Int.emod_nonneg v (b := n) (by omega)
  have h4 := Int.emod_lt_of_pos v hn
  constructor
  · intro h
    rw [Int.tmod_eq_emod] at h ⊢
    split at h <;> rename_i hc
    · omega
    · rw [if_neg hc]
      omega
  · intro h
    rw [Int.tmod_eq_emod] at h ⊢
    split at h <;> rename_i hc
    · rw [if_pos hc]; simp
    · omega

theorem place_any (v n : Int) (w : World) (hn0 : 0 < n) (hn1 : n ≤ 4611686018427387904) :
    Calls Try.prog 11 #[.int .i64 v, .int .i64 n] w fun e w' => e = .returned (.int .i64 (v % n)) ∧ w = w' := by
  have h1 := (emod_of_tmod (v := v) hn0).1
  have h2 := (emod_of_tmod (v := v) hn0).2
  have h3 := Int.emod_nonneg v (b := n) (by omega)
  have h4 := Int.emod_lt_of_pos v hn0
  have H1 := hide h1; clear h1
  have H2 := hide h2; clear h2
  go_enter Try.func11, Try.ntmps11
  go_wp2
  · go_ret
    refine ⟨ret_int ?_, rfl⟩
    have h : v.tmod n < 0 := by assumption
    rw [H1.out h]
    unfold wrap64
    omega
  · go_ret
    refine ⟨ret_int ?_, rfl⟩
    exact H2.out (by assumption)

def TimerAt (w : World) (b : Nat) (n : Int) : Prop := Blk w b 62 #[.int .i64 n]

theorem new_any (w : World) : Calls Try.prog 10 #[] w fun e w' => e = .returned (.pointer (some ⟨w.heap.size, 0, none⟩)) ∧ TimerAt w' w.heap.size 0 ∧ w.grownBy w' none := by
  go_enter Try.func10, Try.ntmps10
  go_wp2
  go_ret
  exact ⟨rfl, Blk.new _ _ _, gb_alloc (gb_refl _ _) _⟩

/-- 'n' cut to from 1 to 2^30. -/
def cutN (n : Int) : Int := max 1 (min n 1073741824)
theorem cutN_lo (n : Int) : 1 ≤ cutN n ∧ cutN n ≤ 1073741824 := by unfold cutN; omega

theorem start_any (b : Nat) (m n : Int) (w : World) (hb : TimerAt w b m) :
    Calls Try.prog 12 #[.pointer (some ⟨b, 0, none⟩), .int .i64 n] w fun e w' => e = .returned (.tuple #[]) ∧ TimerAt w' b (cutN n) ∧ w.grownBy w' (some b) := by
  have hc : w.cell? ⟨b, 0, none⟩ = some (.int .i64 m) := by simpa using Blk.cell hb 0
  have hf := Blk.free hb 0
  go_enter Try.func12, Try.ntmps12
  go_wp2
  · go_end0
    have : cutN n = 1073741824 := by unfold cutN; omega
    rw [this]
    exact ⟨rfl, Blk.set hb 0 _, gb_set (gb_refl _ _) _ _⟩
  · go_end0
    have : cutN n = n := by unfold cutN; omega
    rw [this]
    exact ⟨rfl, Blk.set hb 0 _, gb_set (gb_refl _ _) _ _⟩
  · go_end0
    have : cutN n = 1 := by unfold cutN; omega
    rw [this]
    exact ⟨rfl, Blk.set hb 0 _, gb_set (gb_refl _ _) _ _⟩

theorem left_any (b : Nat) (m : Int) (w : World) (hb : TimerAt w b m) :
    Calls Try.prog 24 #[.pointer (some ⟨b, 0, none⟩)] w fun e w' => e = .returned (.int .i64 m) ∧ w = w' := by
  have hc : w.cell? ⟨b, 0, none⟩ = some (.int .i64 m) := by simpa using Blk.cell hb 0
  go_enter Try.func24, Try.ntmps24
  go_wp2
  go_ret
  exact ⟨rfl, rfl⟩

theorem tick_any (b : Nat) (m : Int) (w : World) (hb : TimerAt w b m) (hm0 : 0 ≤ m) (hm1 : m ≤ 1073741824) :
    Calls Try.prog 13 #[.pointer (some ⟨b, 0, none⟩)] w fun e w' => e = .returned (.bool (decide (m = 1))) ∧ TimerAt w' b (if m = 0 then 0 else m - 1) ∧ w.grownBy w' (some b) := by
  have hc : w.cell? ⟨b, 0, none⟩ = some (.int .i64 m) := by simpa using Blk.cell hb 0
  have hf := Blk.free hb 0
  go_enter Try.func13, Try.ntmps13
  go_wp2
  refine wp_scope_fwd 0 rfl ?_
  go_wp2
  · go_step3
    refine jump_goto ?_
    go_wp2
    refine no_ret ?_
    go_ret
    have h0 : (m == 0) = true := by assumption
    have h1 : m = 0 := by simpa using h0
    subst h1
    exact ⟨rfl, hb, gb_refl _ _⟩
  · have h0 : (m == 0) = false := by assumption
    have h1 : m ≠ 0 := by simpa using h0
    go_step3
    go_wp2
    refine jump_ret ?_
    go_ret
    rw [if_neg h1]
    exact ⟨ret_bool (by rw [Bool.eq_iff_iff]; simp; omega), Blk.set hb 0 _, gb_set (gb_refl _ _) _ _⟩

theorem tick_stopped (b : Nat) (w : World) (hb : TimerAt w b 0) :
    Calls Try.prog 13 #[.pointer (some ⟨b, 0, none⟩)] w fun e w' => e = .returned (.bool false) ∧ TimerAt w' b 0 ∧ w.grownBy w' (some b) := by
  have := tick_any b 0 w hb (by omega) (by omega)
  simpa using this
theorem tick_last (b : Nat) (w : World) (hb : TimerAt w b 1) :
    Calls Try.prog 13 #[.pointer (some ⟨b, 0, none⟩)] w fun e w' => e = .returned (.bool true) ∧ TimerAt w' b 0 ∧ w.grownBy w' (some b) := by
  have := tick_any b 1 w hb (by omega) (by omega)
  simpa using this
theorem tick_more (b : Nat) (m : Int) (w : World) (hb : TimerAt w b m) (hm0 : 2 ≤ m) (hm1 : m ≤ 1073741824) :
    Calls Try.prog 13 #[.pointer (some ⟨b, 0, none⟩)] w fun e w' => e = .returned (.bool false) ∧ TimerAt w' b (m - 1) ∧ w.grownBy w' (some b) := by
  have := tick_any b m w hb (by omega) hm1
  rw [if_neg (by omega), show decide (m = 1) = false from by simp; omega] at this
  exact this

theorem stop_any (b : Nat) (m : Int) (w : World) (hb : TimerAt w b m) :
    Calls Try.prog 26 #[.pointer (some ⟨b, 0, none⟩)] w fun e w' => e = .returned (.tuple #[]) ∧ TimerAt w' b 0 ∧ w.grownBy w' (some b) := by
  have hc : w.cell? ⟨b, 0, none⟩ = some (.int .i64 m) := by simpa using Blk.cell hb 0
  have hf := Blk.free hb 0
  go_enter Try.func26, Try.ntmps26
  go_wp2
  go_end0
  exact ⟨rfl, Blk.set hb 0 _, gb_set (gb_refl _ _) _ _⟩

theorem awake_any (w : World) : Calls Try.prog 14 #[] w fun e w' => e = .returned (.bool true) ∧ w.grownBy w' none := by
  go_enter Try.func14, Try.ntmps14
  go_wp2_with fail
  refine (new_any _).mono ?_
  rintro e w1 ⟨rfl, hb1, hg1⟩
  go_wp2_with fail
  refine (start_any _ _ _ _ hb1).mono ?_
  rintro e w2 ⟨rfl, hb2, hg2⟩
  rw [show cutN 2 = 2 from by decide] at hb2
  go_wp2_with fail
  refine (tick_more _ 2 _ hb2 (by omega) (by omega)).mono ?_
  rintro e w3 ⟨rfl, hb3, hg3⟩
  go_wp2_with fail
  refine (tick_last _ _ hb3).mono ?_
  rintro e w4 ⟨rfl, hb4, hg4⟩
  go_wp2_with fail
  refine (tick_stopped _ _ hb4).mono ?_
  rintro e w5 ⟨rfl, hb5, hg5⟩
  go_wp2
  go_ret
  exact ⟨rfl, gb_young (gb_young (gb_young (gb_young hg1 hg2 (Nat.le_refl _)) hg3 (Nat.le_refl _)) hg4 (Nat.le_refl _)) hg5 (Nat.le_refl _)⟩
end Go.Proofs.Ytabibaamlhchbaa
