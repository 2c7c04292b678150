/- The walk of ServoBounds. -/
import Derived.Test.YtjbkffhbgcoliaaSample
namespace Go.Proofs.Ytjbkffhbgcoliaa
open Go.RowKit
attribute [local go_sem] max_two min_two max2_max min2_min

theorem fr_next (s : Sv) (o : Int) : s.fr o = (s.next o).freq := by
  unfold Sv.fr Sv.next
  split <;> rfl
theorem next_st {s : Sv} (h : 0 ≤ s.st) (h2 : s.st ≤ 2) (o : Int) : 1 ≤ (s.next o).st ∧ (s.next o).st ≤ 2 := by
  unfold Sv.next
  split
  · simp [Sv.set]
  · rename_i hn
    have : s.st ≠ 0 := fun e => hn (.inl e)
    simp only [Sv.steer, stOf]
    split <;> (try split) <;> omega
theorem next_step (s : Sv) (o : Int) : (s.next o).step = s.step := by
  unfold Sv.next
  split <;> rfl

set_option maxHeartbeats 4000000 in
set_option maxRecDepth 100000 in
theorem servoBounds_walk (a0 : Int) (a1 : Int) (a2 : Int) (a3 : Option Addr) (len3 cap3 : Nat) (z3 : List Int) (w : World) (_ : (Lit.int .i64 a0).wf = true) (_ : (Lit.int .i64 a1).wf = true) (_ : (Lit.int .i64 a2).wf = true) (w3 : IsRow .i64 w a3 len3 cap3 z3) :
    Calls Try.prog 7 #[.int .i64 a0, .int .i64 a1, .int .i64 a2, .slice a3 len3 cap3] w fun e w' => e = .returned (.bool true) ∧ Below w.heap.size w w' := by
  have l3 := row_len w3
  go_enter Try.func7, Try.ntmps7
  go_wp2_with fail
  refine (new_any _ _ _ _).mono ?_
  rintro e u1 ⟨rfl, hb1, hg1⟩
  obtain ⟨s0, hs0⟩ : ∃ s0, s0 = Sv.new a0 a1 a2 := ⟨_, rfl⟩
  obtain ⟨K, hK⟩ : ∃ K, K = min (max a2 0) 1000000000 := ⟨_, rfl⟩
  have hStep0 : s0.step = K := by rw [hs0, hK]; simp only [Sv.new, clampI]; omega
  have hSt0 : s0.st = 0 := by rw [hs0]; rfl
  have hOk0 : s0.Ok 0 := by rw [hs0]; exact new_ok _ _ _
  have hK0 : 0 ≤ K := by omega
  have hK1 : K ≤ 1000000000 := by omega
  rw [← hs0] at hb1
  have HK := hide hK
  clear hs0 hK
  have hk' := HK.out.symm
  go_wp2_with fail
  clear hk'
  have H0 := hide (And.intro hStep0 hSt0)
  clear hStep0 hSt0
  go_loopw [11] (fun i wr => ∃ (k : Nat) (s : Sv), i = .int .i64 k ∧ k ≤ len3 ∧ k ≤ 60 ∧ s.Ok k ∧ s.step = K ∧ ((k = 0 → s.st = 0) ∧ (k ≠ 0 → s.st ≠ 0)) ∧ SvAt wr w.heap.size s ∧ w.grownBy wr none) (fun i _ => 60 - (intOf i).toNat)
  case atStart => exact ⟨0, s0, rfl, by omega, by omega, hOk0, H0.out.1, ⟨fun _ => H0.out.2, fun h => absurd rfl h⟩, hb1, hg1⟩
  case round =>
    obtain ⟨k, s, rfl, hk0, hk1, hok, hStep, hSt, hb, hg⟩ := hrel
    have HSS := hide (And.intro hStep hSt)
    clear hb1 hg1 hStep hSt H0 hOk0
    by_cases hkk : k < len3 ∧ k < 60
    · obtain ⟨hk, hk2⟩ := hkk
      obtain ⟨b, off, rfl, hz, hbw, hrow⟩ := row_open w3 (by omega)
      have hcell := ((hrow.kept hg) k (by omega)).1
      have p0 := Int.emod_nonneg (z3[k]?.getD 0) (b := 2199023255552) (by omega)
      have p1 := Int.emod_lt_of_pos (z3[k]?.getD 0) (b := 2199023255552) (by omega)
      have q0 := Int.emod_nonneg (z3[k]?.getD 0) (b := 2001) (by omega)
      have q1 := Int.emod_lt_of_pos (z3[k]?.getD 0) (b := 2001) (by omega)
      go_wp2_with fail
      refine (place_any _ _ _ (by omega) (by omega)).mono ?_
      rintro e u2 ⟨rfl, rfl⟩
      rcases (show (k : Int) % 2 = 1 ∨ (k : Int) % 2 ≠ 1 from by omega) with hp | hp
      · have t0 : ((k : Int) % 2 == 1) = true := by rw [beq_iff_eq]; exact hp
        clear hp
        go_wp2_with fail
        refine (place_any _ _ _ (by omega) (by omega)).mono ?_
        rintro e u2 ⟨rfl, rfl⟩
        clear hcell t0
        go_wp2_with fail
        · have ho0 : -1099511627776 ≤ z3[k]?.getD 0 % 2001 - 1000 := by omega
          have ho1 : z3[k]?.getD 0 % 2001 - 1000 ≤ 1099511627776 := by omega
          clear p0 p1 q0 q1
          generalize z3[k]?.getD 0 % 2001 - 1000 = o at *
          obtain ⟨s', hs'⟩ : ∃ s', s' = s.next o := ⟨_, rfl⟩
          have HN := hide hs'.symm
          have hok' : s'.Ok (k + 1) := by rw [hs']; exact next_ok hok (by omega) o
          have hst' : 1 ≤ s'.st ∧ s'.st ≤ 2 := by rw [hs']; exact next_st hok.st.1 hok.st.2 o
          have HSTEP : Hid (s'.step = K) := by rw [hs', next_step]; exact HSS.out.1
          have HOK : Hid (s'.Ok ((k + 1 : Nat) : Int)) := by rw [show ((k + 1 : Nat) : Int) = (k : Int) + 1 from by omega]; exact hok'
          have f0 := hok'.freq.1
          have f1 := hok'.freq.2
          have d0 := hok'.drift.1
          have d1 := hok'.drift.2
          have st0 := hst'.1
          have st1 := hst'.2
          clear hs' hok' hst'
          obtain ⟨hStep, hSt⟩ := HSS.out
          rcases (show (k = 0) ∨ (k ≠ 0 ∧ K = 0) ∨ (k ≠ 0 ∧ K ≠ 0 ∧ K < o) ∨ (k ≠ 0 ∧ K ≠ 0 ∧ o ≤ K ∧ o < -K) ∨ (k ≠ 0 ∧ K ≠ 0 ∧ o ≤ K ∧ -K ≤ o) from by omega) with hi | ⟨hi, hK⟩ | ⟨hi, hK, ho⟩ | ⟨hi, hK, ho, ho'⟩ | ⟨hi, hK, ho, ho'⟩
          · have hset : IsSet s o := .inl (hSt.1 hi)
            have t1 : ((k : Int) == 0) = true := by rw [beq_iff_eq]; omega
            have hS := sample_is w.heap.size o _ wr _ hb hok (by omega) o (cutI_in (by omega) (by omega)) (y := -o) (t := true) (by unfold Sv.by; rw [if_pos hset]) (by simpa using hset) (fr_next s o) HN.out
            clear hset
            refine hS.mono ?_
            clear hS
            rintro e u5 ⟨rfl, hb5, hg5⟩
            have g5 := gb_young hg hg5 (Nat.le_refl _)
            rw [HN.out]
            clear hb hg hg5 hi hSt hStep
            go_wp2_with fail
            refine (freq_any _ _ _ hb5).mono ?_
            rintro e u6 ⟨rfl, rfl⟩
            go_wp2_with fail
            refine (drift_any _ _ _ hb5).mono ?_
            rintro e u6 ⟨rfl, rfl⟩
            go_wp2_with fail
            refine (drift_any _ _ _ hb5).mono ?_
            rintro e u6 ⟨rfl, rfl⟩
            go_wp2_with fail
            refine (state_any _ _ _ hb5).mono ?_
            rintro e u6 ⟨rfl, rfl⟩
            go_wp2_with fail
            refine (state_any _ _ _ hb5).mono ?_
            rintro e u6 ⟨rfl, rfl⟩
            go_wp2
            exact ⟨⟨k + 1, s', by go_num, by omega, by omega, HOK.out, HSTEP.out, ⟨fun h => by omega, fun _ => by omega⟩, hb5, g5⟩, by simp [intOf]; omega⟩
          · have hset : IsSet s o := .inr (.inl (by rw [hStep]; exact hK))
            have t1 : ((k : Int) == 0) = false := by rw [beq_eq_false_iff_ne]; omega
            have t2 : (K == 0) = true := by rw [beq_iff_eq]; omega
            clear hK
            have hS := sample_is w.heap.size o _ wr _ hb hok (by omega) o (cutI_in (by omega) (by omega)) (y := -o) (t := true) (by unfold Sv.by; rw [if_pos hset]) (by simpa using hset) (fr_next s o) HN.out
            clear hset
            refine hS.mono ?_
            clear hS
            rintro e u5 ⟨rfl, hb5, hg5⟩
            have g5 := gb_young hg hg5 (Nat.le_refl _)
            rw [HN.out]
            clear hb hg hg5 hi hSt hStep
            go_wp2_with fail
            refine (freq_any _ _ _ hb5).mono ?_
            rintro e u6 ⟨rfl, rfl⟩
            go_wp2_with fail
            refine (drift_any _ _ _ hb5).mono ?_
            rintro e u6 ⟨rfl, rfl⟩
            go_wp2_with fail
            refine (drift_any _ _ _ hb5).mono ?_
            rintro e u6 ⟨rfl, rfl⟩
            go_wp2_with fail
            refine (state_any _ _ _ hb5).mono ?_
            rintro e u6 ⟨rfl, rfl⟩
            go_wp2_with fail
            refine (state_any _ _ _ hb5).mono ?_
            rintro e u6 ⟨rfl, rfl⟩
            go_wp2
            exact ⟨⟨k + 1, s', by go_num, by omega, by omega, HOK.out, HSTEP.out, ⟨fun h => by omega, fun _ => by omega⟩, hb5, g5⟩, by simp [intOf]; omega⟩
          · have hset : IsSet s o := .inr (.inr (.inl (by rw [hStep]; exact ho)))
            have t1 : ((k : Int) == 0) = false := by rw [beq_eq_false_iff_ne]; omega
            have t2 : (K == 0) = false := by rw [beq_eq_false_iff_ne]; omega
            have hS := sample_is w.heap.size o _ wr _ hb hok (by omega) o (cutI_in (by omega) (by omega)) (y := -o) (t := true) (by unfold Sv.by; rw [if_pos hset]) (by simpa using hset) (fr_next s o) HN.out
            clear hset
            refine hS.mono ?_
            clear hS
            rintro e u5 ⟨rfl, hb5, hg5⟩
            have g5 := gb_young hg hg5 (Nat.le_refl _)
            rw [HN.out]
            clear hb hg hg5 hi hSt hStep
            go_wp2_with fail
            refine (freq_any _ _ _ hb5).mono ?_
            rintro e u6 ⟨rfl, rfl⟩
            go_wp2_with fail
            refine (drift_any _ _ _ hb5).mono ?_
            rintro e u6 ⟨rfl, rfl⟩
            go_wp2_with fail
            refine (drift_any _ _ _ hb5).mono ?_
            rintro e u6 ⟨rfl, rfl⟩
            go_wp2_with fail
            refine (state_any _ _ _ hb5).mono ?_
            rintro e u6 ⟨rfl, rfl⟩
            go_wp2_with fail
            refine (state_any _ _ _ hb5).mono ?_
            rintro e u6 ⟨rfl, rfl⟩
            go_wp2
            exact ⟨⟨k + 1, s', by go_num, by omega, by omega, HOK.out, HSTEP.out, ⟨fun h => by omega, fun _ => by omega⟩, hb5, g5⟩, by simp [intOf]; omega⟩
          · have hset : IsSet s o := .inr (.inr (.inr (by rw [hStep]; exact ho')))
            have t1 : ((k : Int) == 0) = false := by rw [beq_eq_false_iff_ne]; omega
            have t2 : (K == 0) = false := by rw [beq_eq_false_iff_ne]; omega
            have hS := sample_is w.heap.size o _ wr _ hb hok (by omega) o (cutI_in (by omega) (by omega)) (y := -o) (t := true) (by unfold Sv.by; rw [if_pos hset]) (by simpa using hset) (fr_next s o) HN.out
            clear hset
            refine hS.mono ?_
            clear hS
            rintro e u5 ⟨rfl, hb5, hg5⟩
            have g5 := gb_young hg hg5 (Nat.le_refl _)
            rw [HN.out]
            clear hb hg hg5 hi hSt hStep
            go_wp2_with fail
            refine (freq_any _ _ _ hb5).mono ?_
            rintro e u6 ⟨rfl, rfl⟩
            go_wp2_with fail
            refine (drift_any _ _ _ hb5).mono ?_
            rintro e u6 ⟨rfl, rfl⟩
            go_wp2_with fail
            refine (drift_any _ _ _ hb5).mono ?_
            rintro e u6 ⟨rfl, rfl⟩
            go_wp2_with fail
            refine (state_any _ _ _ hb5).mono ?_
            rintro e u6 ⟨rfl, rfl⟩
            go_wp2_with fail
            refine (state_any _ _ _ hb5).mono ?_
            rintro e u6 ⟨rfl, rfl⟩
            go_wp2
            exact ⟨⟨k + 1, s', by go_num, by omega, by omega, HOK.out, HSTEP.out, ⟨fun h => by omega, fun _ => by omega⟩, hb5, g5⟩, by simp [intOf]; omega⟩
          · have hset : ¬ IsSet s o := by unfold IsSet; rw [hStep]; have := hSt.2 hi; omega
            have t1 : ((k : Int) == 0) = false := by rw [beq_eq_false_iff_ne]; omega
            have t2 : (K == 0) = false := by rw [beq_eq_false_iff_ne]; omega
            have hS := sample_is w.heap.size o _ wr _ hb hok (by omega) o (cutI_in (by omega) (by omega)) (y := 0) (t := false) (by unfold Sv.by; rw [if_neg hset]) (by simpa using hset) (fr_next s o) HN.out
            clear hset
            refine hS.mono ?_
            clear hS
            rintro e u5 ⟨rfl, hb5, hg5⟩
            have g5 := gb_young hg hg5 (Nat.le_refl _)
            rw [HN.out]
            clear hb hg hg5 hi hSt hStep
            go_wp2_with fail
            refine (freq_any _ _ _ hb5).mono ?_
            rintro e u6 ⟨rfl, rfl⟩
            go_wp2_with fail
            refine (drift_any _ _ _ hb5).mono ?_
            rintro e u6 ⟨rfl, rfl⟩
            go_wp2_with fail
            refine (drift_any _ _ _ hb5).mono ?_
            rintro e u6 ⟨rfl, rfl⟩
            go_wp2_with fail
            refine (state_any _ _ _ hb5).mono ?_
            rintro e u6 ⟨rfl, rfl⟩
            go_wp2_with fail
            refine (state_any _ _ _ hb5).mono ?_
            rintro e u6 ⟨rfl, rfl⟩
            go_wp2
            exact ⟨⟨k + 1, s', by go_num, by omega, by omega, HOK.out, HSTEP.out, ⟨fun h => by omega, fun _ => by omega⟩, hb5, g5⟩, by simp [intOf]; omega⟩
      · have t0 : ((k : Int) % 2 == 1) = false := by rw [beq_eq_false_iff_ne]; exact hp
        clear hp
        go_wp2_with fail
        · have ho0 : -1099511627776 ≤ z3[k]?.getD 0 % 2199023255552 - 1099511627776 := by omega
          have ho1 : z3[k]?.getD 0 % 2199023255552 - 1099511627776 ≤ 1099511627776 := by omega
          clear p0 p1 q0 q1 hcell t0
          generalize z3[k]?.getD 0 % 2199023255552 - 1099511627776 = o at *
          obtain ⟨s', hs'⟩ : ∃ s', s' = s.next o := ⟨_, rfl⟩
          have HN := hide hs'.symm
          have hok' : s'.Ok (k + 1) := by rw [hs']; exact next_ok hok (by omega) o
          have hst' : 1 ≤ s'.st ∧ s'.st ≤ 2 := by rw [hs']; exact next_st hok.st.1 hok.st.2 o
          have HSTEP : Hid (s'.step = K) := by rw [hs', next_step]; exact HSS.out.1
          have HOK : Hid (s'.Ok ((k + 1 : Nat) : Int)) := by rw [show ((k + 1 : Nat) : Int) = (k : Int) + 1 from by omega]; exact hok'
          have f0 := hok'.freq.1
          have f1 := hok'.freq.2
          have d0 := hok'.drift.1
          have d1 := hok'.drift.2
          have st0 := hst'.1
          have st1 := hst'.2
          clear hs' hok' hst'
          obtain ⟨hStep, hSt⟩ := HSS.out
          rcases (show (k = 0) ∨ (k ≠ 0 ∧ K = 0) ∨ (k ≠ 0 ∧ K ≠ 0 ∧ K < o) ∨ (k ≠ 0 ∧ K ≠ 0 ∧ o ≤ K ∧ o < -K) ∨ (k ≠ 0 ∧ K ≠ 0 ∧ o ≤ K ∧ -K ≤ o) from by omega) with hi | ⟨hi, hK⟩ | ⟨hi, hK, ho⟩ | ⟨hi, hK, ho, ho'⟩ | ⟨hi, hK, ho, ho'⟩
          · have hset : IsSet s o := .inl (hSt.1 hi)
            have t1 : ((k : Int) == 0) = true := by rw [beq_iff_eq]; omega
            have hS := sample_is w.heap.size o _ wr _ hb hok (by omega) o (cutI_in (by omega) (by omega)) (y := -o) (t := true) (by unfold Sv.by; rw [if_pos hset]) (by simpa using hset) (fr_next s o) HN.out
            clear hset
            refine hS.mono ?_
            clear hS
            rintro e u5 ⟨rfl, hb5, hg5⟩
            have g5 := gb_young hg hg5 (Nat.le_refl _)
            rw [HN.out]
            clear hb hg hg5 hi hSt hStep
            go_wp2_with fail
            refine (freq_any _ _ _ hb5).mono ?_
            rintro e u6 ⟨rfl, rfl⟩
            go_wp2_with fail
            refine (drift_any _ _ _ hb5).mono ?_
            rintro e u6 ⟨rfl, rfl⟩
            go_wp2_with fail
            refine (drift_any _ _ _ hb5).mono ?_
            rintro e u6 ⟨rfl, rfl⟩
            go_wp2_with fail
            refine (state_any _ _ _ hb5).mono ?_
            rintro e u6 ⟨rfl, rfl⟩
            go_wp2_with fail
            refine (state_any _ _ _ hb5).mono ?_
            rintro e u6 ⟨rfl, rfl⟩
            go_wp2
            exact ⟨⟨k + 1, s', by go_num, by omega, by omega, HOK.out, HSTEP.out, ⟨fun h => by omega, fun _ => by omega⟩, hb5, g5⟩, by simp [intOf]; omega⟩
          · have hset : IsSet s o := .inr (.inl (by rw [hStep]; exact hK))
            have t1 : ((k : Int) == 0) = false := by rw [beq_eq_false_iff_ne]; omega
            have t2 : (K == 0) = true := by rw [beq_iff_eq]; omega
            clear hK
            have hS := sample_is w.heap.size o _ wr _ hb hok (by omega) o (cutI_in (by omega) (by omega)) (y := -o) (t := true) (by unfold Sv.by; rw [if_pos hset]) (by simpa using hset) (fr_next s o) HN.out
            clear hset
            refine hS.mono ?_
            clear hS
            rintro e u5 ⟨rfl, hb5, hg5⟩
            have g5 := gb_young hg hg5 (Nat.le_refl _)
            rw [HN.out]
            clear hb hg hg5 hi hSt hStep
            go_wp2_with fail
            refine (freq_any _ _ _ hb5).mono ?_
            rintro e u6 ⟨rfl, rfl⟩
            go_wp2_with fail
            refine (drift_any _ _ _ hb5).mono ?_
            rintro e u6 ⟨rfl, rfl⟩
            go_wp2_with fail
            refine (drift_any _ _ _ hb5).mono ?_
            rintro e u6 ⟨rfl, rfl⟩
            go_wp2_with fail
            refine (state_any _ _ _ hb5).mono ?_
            rintro e u6 ⟨rfl, rfl⟩
            go_wp2_with fail
            refine (state_any _ _ _ hb5).mono ?_
            rintro e u6 ⟨rfl, rfl⟩
            go_wp2
            exact ⟨⟨k + 1, s', by go_num, by omega, by omega, HOK.out, HSTEP.out, ⟨fun h => by omega, fun _ => by omega⟩, hb5, g5⟩, by simp [intOf]; omega⟩
          · have hset : IsSet s o := .inr (.inr (.inl (by rw [hStep]; exact ho)))
            have t1 : ((k : Int) == 0) = false := by rw [beq_eq_false_iff_ne]; omega
            have t2 : (K == 0) = false := by rw [beq_eq_false_iff_ne]; omega
            have hS := sample_is w.heap.size o _ wr _ hb hok (by omega) o (cutI_in (by omega) (by omega)) (y := -o) (t := true) (by unfold Sv.by; rw [if_pos hset]) (by simpa using hset) (fr_next s o) HN.out
            clear hset
            refine hS.mono ?_
            clear hS
            rintro e u5 ⟨rfl, hb5, hg5⟩
            have g5 := gb_young hg hg5 (Nat.le_refl _)
            rw [HN.out]
            clear hb hg hg5 hi hSt hStep
            go_wp2_with fail
            refine (freq_any _ _ _ hb5).mono ?_
            rintro e u6 ⟨rfl, rfl⟩
            go_wp2_with fail
            refine (drift_any _ _ _ hb5).mono ?_
            rintro e u6 ⟨rfl, rfl⟩
            go_wp2_with fail
            refine (drift_any _ _ _ hb5).mono ?_
            rintro e u6 ⟨rfl, rfl⟩
            go_wp2_with fail
            refine (state_any _ _ _ hb5).mono ?_
            rintro e u6 ⟨rfl, rfl⟩
            go_wp2_with fail
            refine (state_any _ _ _ hb5).mono ?_
            rintro e u6 ⟨rfl, rfl⟩
            go_wp2
            exact ⟨⟨k + 1, s', by go_num, by omega, by omega, HOK.out, HSTEP.out, ⟨fun h => by omega, fun _ => by omega⟩, hb5, g5⟩, by simp [intOf]; omega⟩
          · have hset : IsSet s o := .inr (.inr (.inr (by rw [hStep]; exact ho')))
            have t1 : ((k : Int) == 0) = false := by rw [beq_eq_false_iff_ne]; omega
            have t2 : (K == 0) = false := by rw [beq_eq_false_iff_ne]; omega
            have hS := sample_is w.heap.size o _ wr _ hb hok (by omega) o (cutI_in (by omega) (by omega)) (y := -o) (t := true) (by unfold Sv.by; rw [if_pos hset]) (by simpa using hset) (fr_next s o) HN.out
            clear hset
            refine hS.mono ?_
            clear hS
            rintro e u5 ⟨rfl, hb5, hg5⟩
            have g5 := gb_young hg hg5 (Nat.le_refl _)
            rw [HN.out]
            clear hb hg hg5 hi hSt hStep
            go_wp2_with fail
            refine (freq_any _ _ _ hb5).mono ?_
            rintro e u6 ⟨rfl, rfl⟩
            go_wp2_with fail
            refine (drift_any _ _ _ hb5).mono ?_
            rintro e u6 ⟨rfl, rfl⟩
            go_wp2_with fail
            refine (drift_any _ _ _ hb5).mono ?_
            rintro e u6 ⟨rfl, rfl⟩
            go_wp2_with fail
            refine (state_any _ _ _ hb5).mono ?_
            rintro e u6 ⟨rfl, rfl⟩
            go_wp2_with fail
            refine (state_any _ _ _ hb5).mono ?_
            rintro e u6 ⟨rfl, rfl⟩
            go_wp2
            exact ⟨⟨k + 1, s', by go_num, by omega, by omega, HOK.out, HSTEP.out, ⟨fun h => by omega, fun _ => by omega⟩, hb5, g5⟩, by simp [intOf]; omega⟩
          · have hset : ¬ IsSet s o := by unfold IsSet; rw [hStep]; have := hSt.2 hi; omega
            have t1 : ((k : Int) == 0) = false := by rw [beq_eq_false_iff_ne]; omega
            have t2 : (K == 0) = false := by rw [beq_eq_false_iff_ne]; omega
            have hS := sample_is w.heap.size o _ wr _ hb hok (by omega) o (cutI_in (by omega) (by omega)) (y := 0) (t := false) (by unfold Sv.by; rw [if_neg hset]) (by simpa using hset) (fr_next s o) HN.out
            clear hset
            refine hS.mono ?_
            clear hS
            rintro e u5 ⟨rfl, hb5, hg5⟩
            have g5 := gb_young hg hg5 (Nat.le_refl _)
            rw [HN.out]
            clear hb hg hg5 hi hSt hStep
            go_wp2_with fail
            refine (freq_any _ _ _ hb5).mono ?_
            rintro e u6 ⟨rfl, rfl⟩
            go_wp2_with fail
            refine (drift_any _ _ _ hb5).mono ?_
            rintro e u6 ⟨rfl, rfl⟩
            go_wp2_with fail
            refine (drift_any _ _ _ hb5).mono ?_
            rintro e u6 ⟨rfl, rfl⟩
            go_wp2_with fail
            refine (state_any _ _ _ hb5).mono ?_
            rintro e u6 ⟨rfl, rfl⟩
            go_wp2_with fail
            refine (state_any _ _ _ hb5).mono ?_
            rintro e u6 ⟨rfl, rfl⟩
            go_wp2
            exact ⟨⟨k + 1, s', by go_num, by omega, by omega, HOK.out, HSTEP.out, ⟨fun h => by omega, fun _ => by omega⟩, hb5, g5⟩, by simp [intOf]; omega⟩
    · rcases (show ¬ k < len3 ∨ (k < len3 ∧ ¬ k < 60) from by omega) with hx | ⟨hx, hy⟩ <;> go_wp2_with fail
      all_goals
        refine (awake_any _).mono ?_
        rintro e u5 ⟨rfl, hg5⟩
        go_wp2
        go_ret
        exact ⟨rfl, below_of_gb (gb_trans hg hg5)⟩
end Go.Proofs.Ytjbkffhbgcoliaa
