/- The walk of PortStates. -/
import Derived.Test.YtekgkflabcbobaaPtAwake
namespace Go.Proofs.Ytekgkflabcbobaa
open Go.RowKit

/-- One of nine; slave only: none that leads, and not passive. -/
def Good (so : Bool) (s : Int) : Prop := 1 ≤ s ∧ s ≤ 9 ∧ (so = true → s ≠ 5 ∧ s ≠ 6 ∧ s ≠ 7)
theorem good_next {so : Bool} {s : Int} (h : Good so s) (e : Int) : Good so (nextI s e so) := by
  obtain ⟨h1, h2, h3⟩ := h
  unfold nextI
  cases so with
  | true =>
    have h3 := h3 rfl
    simp only [if_true]
    refine ⟨?_, ?_, fun _ => ?_⟩ <;> (repeat' split) <;> omega
  | false =>
    refine ⟨?_, ?_, fun hh => by cases hh⟩ <;> (repeat' split) <;> omega
theorem good_dec {so : Bool} {s : Int} (h : Good so s) (d : Int) (same : Bool) : Good so (decI s d same so) := by
  obtain ⟨h1, h2, h3⟩ := h
  unfold decI
  cases so with
  | true =>
    have h3 := h3 rfl
    by_cases hd : d = 6
    · subst hd
      refine ⟨?_, ?_, fun _ => ?_⟩ <;> (repeat' split) <;> omega
    · by_cases hA : aliveB s = false ∨ d < 1 ∨ 6 < d
      · rw [if_pos hA]
        exact ⟨h1, h2, fun _ => h3⟩
      · rw [if_neg hA, if_pos ⟨rfl, hd⟩]
        exact ⟨by omega, by omega, fun _ => by omega⟩
  | false =>
    refine ⟨?_, ?_, fun hh => by cases hh⟩ <;> (repeat' split) <;> omega
theorem next_nine {so : Bool} {s e : Int} (h : nextI s e so = 9) (hs : s ≠ 9) : e = 6 := by
  unfold nextI at h
  (repeat' split at h) <;> omega
theorem dec_nine {so same : Bool} {s d : Int} (h : decI s d same so = 9) : s = 9 := by
  unfold decI at h
  (repeat' split at h) <;> omega
theorem dec_dead {so same : Bool} {s d : Int} (h : aliveB s = false) : decI s d same so = s := by simp [decI, h]
theorem name_some {s : Int} (h1 : 1 ≤ s) (h2 : s ≤ 9) : (nameOf s).toList.isEmpty = false := by
  rcases (show s = 1 ∨ s = 2 ∨ s = 3 ∨ s = 4 ∨ s = 5 ∨ s = 6 ∨ s = 7 ∨ s = 8 ∨ s = 9 from by omega) with h | h | h | h | h | h | h | h | h <;> subst h <;> decide +kernel

set_option maxHeartbeats 4000000 in
set_option maxRecDepth 100000 in
theorem portStates_walk (a0 : Option Addr) (len0 cap0 : Nat) (z0 : List Int) (a1 : Bool) (w : World) (w0 : IsRow .i64 w a0 len0 cap0 z0) :
    Calls Try.prog 6 #[.slice a0 len0 cap0, .bool a1] w fun e w' => e = .returned (.bool true) ∧ Below w.heap.size w w' := by
  have l0 := row_len w0
  go_enter Try.func6, Try.ntmps6
  go_wp2_with fail
  go_loopw [5, 6] (fun x i wr => ∃ (k : Nat) (s : Int), i = .int .i64 k ∧ x = .int .i64 s ∧ k ≤ len0 ∧ k ≤ 200 ∧ Good a1 s ∧ w.grownBy wr none) (fun _ i _ => 200 - (intOf i).toNat)
  case atStart => exact ⟨0, 1, rfl, rfl, by omega, by omega, ⟨by omega, by omega, fun _ => by omega⟩, gb_refl _ _⟩
  case round =>
    obtain ⟨k, s, rfl, rfl, hk0, hk1, hG, hg⟩ := hrel
    by_cases hkk : k < len0 ∧ k < 200
    · obtain ⟨hk, hk2⟩ := hkk
      obtain ⟨b, off, rfl, hz, hbw, hrow⟩ := row_open w0 (by omega)
      have hc := ((hrow.kept hg) k (by omega)).1
      go_wp2_with fail
      refine (place_any _ _ _ (by omega) (by omega)).mono ?_
      rintro e w1 ⟨rfl, rfl⟩
      clear hc
      have p0 := Int.emod_nonneg (z0[k]?.getD 0) (b := 32) (by omega)
      have p1 := Int.emod_lt_of_pos (z0[k]?.getD 0) (b := 32) (by omega)
      generalize z0[k]?.getD 0 % 32 = d at *
      by_cases hd : d < 16
      · have hd' : decide (16 ≤ d) = false := by simp; omega
        have hG' := good_next hG d
        have hn9 := fun h => next_nine (so := a1) (s := s) (e := d) h
        go_wp2_with fail
        refine (next_any _ _ _ _).mono ?_
        rintro e w1 ⟨rfl, rfl⟩
        generalize nextI s d a1 = t at *
        have HG := hide hG'
        obtain ⟨g1, g2, g3⟩ := hG'
        have hN := name_some g1 g2
        have ht0 : decide (t < 1) = false := by simp; omega
        have ht1 : decide (9 < t) = false := by simp; omega
        go_wp2_with fail
        refine (name_any _ _).mono ?_
        rintro e w1 ⟨rfl, hg1⟩
        generalize nameOf t = nm at *
        have HN9 := hide hn9
        clear hn9
        cases a1
        · rcases (show t ≠ 9 ∨ (t = 9 ∧ s = 9) ∨ (t = 9 ∧ s ≠ 9) from by omega) with h | ⟨h, h'⟩ | ⟨h, h'⟩
          · have et9 : (t == 9) = false := by rw [beq_eq_false_iff_ne]; omega
            clear h g3
            go_wp2
            exact ⟨⟨k + 1, t, by go_num, rfl, by omega, by omega, HG.out, gb_trans hg hg1⟩, by simp [intOf]; omega⟩
          · have et9 : (t == 9) = true := by rw [beq_iff_eq]; omega
            have ns9 : (s != 9) = false := by simp; omega
            clear h h' g3
            go_wp2
            exact ⟨⟨k + 1, t, by go_num, rfl, by omega, by omega, HG.out, gb_trans hg hg1⟩, by simp [intOf]; omega⟩
          · have hd6 := HN9.out h h'
            have et9 : (t == 9) = true := by rw [beq_iff_eq]; omega
            have ns9 : (s != 9) = true := by rw [bne_iff_ne]; omega
            have nd6 : (d != 6) = false := by simp; omega
            clear h h' g3 hd6
            go_wp2
            exact ⟨⟨k + 1, t, by go_num, rfl, by omega, by omega, HG.out, gb_trans hg hg1⟩, by simp [intOf]; omega⟩
        · rcases (show t ≠ 9 ∨ (t = 9 ∧ s = 9) ∨ (t = 9 ∧ s ≠ 9) from by omega) with h | ⟨h, h'⟩ | ⟨h, h'⟩
          · obtain ⟨n5, n6, n7⟩ := g3 rfl
            have et6 : (t == 6) = false := by rw [beq_eq_false_iff_ne]; omega
            have et5 : (t == 5) = false := by rw [beq_eq_false_iff_ne]; omega
            have et7 : (t == 7) = false := by rw [beq_eq_false_iff_ne]; omega
            clear n5 n6 n7
            have et9 : (t == 9) = false := by rw [beq_eq_false_iff_ne]; omega
            clear h g3
            go_wp2
            exact ⟨⟨k + 1, t, by go_num, rfl, by omega, by omega, HG.out, gb_trans hg hg1⟩, by simp [intOf]; omega⟩
          · obtain ⟨n5, n6, n7⟩ := g3 rfl
            have et6 : (t == 6) = false := by rw [beq_eq_false_iff_ne]; omega
            have et5 : (t == 5) = false := by rw [beq_eq_false_iff_ne]; omega
            have et7 : (t == 7) = false := by rw [beq_eq_false_iff_ne]; omega
            clear n5 n6 n7
            have et9 : (t == 9) = true := by rw [beq_iff_eq]; omega
            have ns9 : (s != 9) = false := by simp; omega
            clear h h' g3
            go_wp2
            exact ⟨⟨k + 1, t, by go_num, rfl, by omega, by omega, HG.out, gb_trans hg hg1⟩, by simp [intOf]; omega⟩
          · obtain ⟨n5, n6, n7⟩ := g3 rfl
            have et6 : (t == 6) = false := by rw [beq_eq_false_iff_ne]; omega
            have et5 : (t == 5) = false := by rw [beq_eq_false_iff_ne]; omega
            have et7 : (t == 7) = false := by rw [beq_eq_false_iff_ne]; omega
            clear n5 n6 n7
            have hd6 := HN9.out h h'
            have et9 : (t == 9) = true := by rw [beq_iff_eq]; omega
            have ns9 : (s != 9) = true := by rw [bne_iff_ne]; omega
            have nd6 : (d != 6) = false := by simp; omega
            clear h h' g3 hd6
            go_wp2
            exact ⟨⟨k + 1, t, by go_num, rfl, by omega, by omega, HG.out, gb_trans hg hg1⟩, by simp [intOf]; omega⟩
      · have hd' : decide (16 ≤ d) = true := by simp; omega
        have hG' := good_dec hG (d - 16) (d % 2 == 0)
        have hn9 := fun h => dec_nine (so := a1) (same := (d % 2 == 0)) (s := s) (d := d - 16) h
        have hdead := fun h => dec_dead (so := a1) (same := (d % 2 == 0)) (s := s) (d := d - 16) h
        go_wp2_with fail
        refine (dec_any _ _ _ _ _).mono ?_
        rintro e w1 ⟨rfl, rfl⟩
        generalize decI s (d - 16) (d % 2 == 0) a1 = t at *
        have HG := hide hG'
        obtain ⟨g1, g2, g3⟩ := hG'
        have hN := name_some g1 g2
        have ht0 : decide (t < 1) = false := by simp; omega
        have ht1 : decide (9 < t) = false := by simp; omega
        have HN9 := hide hn9
        have HDD := hide hdead
        clear hn9 hdead
        go_wp2_with fail
        refine (name_any _ _).mono ?_
        rintro e w1 ⟨rfl, hg1⟩
        generalize nameOf t = nm at *
        cases a1
        · cases ha : aliveB s
          · obtain rfl := HDD.out ha
            have HA := hide ha
            clear ha
            rcases (show t ≠ 9 ∨ t = 9 from by omega) with h | h
            · have et9 : (t == 9) = false := by rw [beq_eq_false_iff_ne]; omega
              clear h g3
              go_wp2_with fail
              refine (alive_any _ _).mono ?_
              rintro e w2 ⟨rfl, rfl⟩
              rw [HA.out]
              go_wp2
              exact ⟨⟨k + 1, t, by go_num, rfl, by omega, by omega, HG.out, gb_trans hg hg1⟩, by simp [intOf]; omega⟩
            · have et9 : (t == 9) = true := by rw [beq_iff_eq]; omega
              have nt9 : (t != 9) = false := by simp; omega
              clear h g3
              go_wp2_with fail
              refine (alive_any _ _).mono ?_
              rintro e w2 ⟨rfl, rfl⟩
              rw [HA.out]
              go_wp2
              exact ⟨⟨k + 1, t, by go_num, rfl, by omega, by omega, HG.out, gb_trans hg hg1⟩, by simp [intOf]; omega⟩
          · have HA := hide ha
            clear ha
            rcases (show t ≠ 9 ∨ t = 9 from by omega) with h | h
            · have et9 : (t == 9) = false := by rw [beq_eq_false_iff_ne]; omega
              clear h g3
              go_wp2_with fail
              refine (alive_any _ _).mono ?_
              rintro e w2 ⟨rfl, rfl⟩
              rw [HA.out]
              go_wp2
              exact ⟨⟨k + 1, t, by go_num, rfl, by omega, by omega, HG.out, gb_trans hg hg1⟩, by simp [intOf]; omega⟩
            · have h' := HN9.out h
              have et9 : (t == 9) = true := by rw [beq_iff_eq]; omega
              have ns9 : (s != 9) = false := by simp; omega
              clear h h' g3
              go_wp2_with fail
              refine (alive_any _ _).mono ?_
              rintro e w2 ⟨rfl, rfl⟩
              rw [HA.out]
              go_wp2
              exact ⟨⟨k + 1, t, by go_num, rfl, by omega, by omega, HG.out, gb_trans hg hg1⟩, by simp [intOf]; omega⟩
        · cases ha : aliveB s
          · obtain rfl := HDD.out ha
            have HA := hide ha
            clear ha
            rcases (show t ≠ 9 ∨ t = 9 from by omega) with h | h
            · obtain ⟨n5, n6, n7⟩ := g3 rfl
              have et6 : (t == 6) = false := by rw [beq_eq_false_iff_ne]; omega
              have et5 : (t == 5) = false := by rw [beq_eq_false_iff_ne]; omega
              have et7 : (t == 7) = false := by rw [beq_eq_false_iff_ne]; omega
              clear n5 n6 n7
              have et9 : (t == 9) = false := by rw [beq_eq_false_iff_ne]; omega
              clear h g3
              go_wp2_with fail
              refine (alive_any _ _).mono ?_
              rintro e w2 ⟨rfl, rfl⟩
              rw [HA.out]
              go_wp2
              exact ⟨⟨k + 1, t, by go_num, rfl, by omega, by omega, HG.out, gb_trans hg hg1⟩, by simp [intOf]; omega⟩
            · obtain ⟨n5, n6, n7⟩ := g3 rfl
              have et6 : (t == 6) = false := by rw [beq_eq_false_iff_ne]; omega
              have et5 : (t == 5) = false := by rw [beq_eq_false_iff_ne]; omega
              have et7 : (t == 7) = false := by rw [beq_eq_false_iff_ne]; omega
              clear n5 n6 n7
              have et9 : (t == 9) = true := by rw [beq_iff_eq]; omega
              have nt9 : (t != 9) = false := by simp; omega
              clear h g3
              go_wp2_with fail
              refine (alive_any _ _).mono ?_
              rintro e w2 ⟨rfl, rfl⟩
              rw [HA.out]
              go_wp2
              exact ⟨⟨k + 1, t, by go_num, rfl, by omega, by omega, HG.out, gb_trans hg hg1⟩, by simp [intOf]; omega⟩
          · have HA := hide ha
            clear ha
            rcases (show t ≠ 9 ∨ t = 9 from by omega) with h | h
            · obtain ⟨n5, n6, n7⟩ := g3 rfl
              have et6 : (t == 6) = false := by rw [beq_eq_false_iff_ne]; omega
              have et5 : (t == 5) = false := by rw [beq_eq_false_iff_ne]; omega
              have et7 : (t == 7) = false := by rw [beq_eq_false_iff_ne]; omega
              clear n5 n6 n7
              have et9 : (t == 9) = false := by rw [beq_eq_false_iff_ne]; omega
              clear h g3
              go_wp2_with fail
              refine (alive_any _ _).mono ?_
              rintro e w2 ⟨rfl, rfl⟩
              rw [HA.out]
              go_wp2
              exact ⟨⟨k + 1, t, by go_num, rfl, by omega, by omega, HG.out, gb_trans hg hg1⟩, by simp [intOf]; omega⟩
            · obtain ⟨n5, n6, n7⟩ := g3 rfl
              have et6 : (t == 6) = false := by rw [beq_eq_false_iff_ne]; omega
              have et5 : (t == 5) = false := by rw [beq_eq_false_iff_ne]; omega
              have et7 : (t == 7) = false := by rw [beq_eq_false_iff_ne]; omega
              clear n5 n6 n7
              have h' := HN9.out h
              have et9 : (t == 9) = true := by rw [beq_iff_eq]; omega
              have ns9 : (s != 9) = false := by simp; omega
              clear h h' g3
              go_wp2_with fail
              refine (alive_any _ _).mono ?_
              rintro e w2 ⟨rfl, rfl⟩
              rw [HA.out]
              go_wp2
              exact ⟨⟨k + 1, t, by go_num, rfl, by omega, by omega, HG.out, gb_trans hg hg1⟩, by simp [intOf]; omega⟩
    · rcases (show ¬ k < len0 ∨ (k < len0 ∧ ¬ k < 200) from by omega) with hx | ⟨hx, hy⟩ <;> go_wp2_with fail
      all_goals
        refine (awake_any _).mono ?_
        rintro e u5 ⟨rfl, hg5⟩
        go_wp2
        go_ret
        exact ⟨rfl, below_of_gb (gb_trans hg hg5)⟩
end Go.Proofs.Ytekgkflabcbobaa
