/- The walk of ServoSigns. -/
import Derived.Test.YtjbkffhbgcoliaaSample
namespace Go.Proofs.Ytjbkffhbgcoliaa
open Go.RowKit

theorem cutI_neg (v m : Int) (hm : 0 ≤ m) : cutI (-v) m = -cutI v m := by unfold cutI; omega

/-- The other way round. -/
structure Mirror (s t : Sv) : Prop where
  kp : s.kp = t.kp
  ki : s.ki = t.ki
  step : s.step = t.step
  st : s.st = t.st
  freq : s.freq = -t.freq
  drift : s.drift = -t.drift
  near : s.near = t.near

theorem mirror_set {s t : Sv} (h : Mirror s t) (o : Int) : IsSet s o ↔ IsSet t (-o) := by
  unfold IsSet
  rw [h.st, h.step]
  omega
theorem mirror_d {s t : Sv} (h : Mirror s t) (o : Int) : s.d o = -t.d (-o) := by
  unfold Sv.d
  rw [← cutI_neg _ _ (by omega), h.drift, h.ki, cutI_neg o _ (by omega), Int.mul_neg, Int.neg_tdiv, Int.neg_add, Int.neg_neg]
theorem mirror_f {s t : Sv} (h : Mirror s t) (o : Int) : s.f o = -t.f (-o) := by
  unfold Sv.f
  rw [mirror_d h o, h.kp, cutI_neg o _ (by omega), Int.mul_neg, Int.neg_tdiv]
  omega
theorem mirror_next {s t : Sv} (h : Mirror s t) (o : Int) : Mirror (s.next o) (t.next (-o)) := by
  have hs := mirror_set h o
  unfold Sv.next
  by_cases hx : IsSet s o
  · rw [if_pos hx, if_pos (hs.1 hx)]
    exact ⟨h.kp, h.ki, h.step, rfl, h.freq, h.drift, rfl⟩
  · rw [if_neg hx, if_neg (fun y => hx (hs.2 y))]
    have hf := mirror_f h o
    have hd := mirror_d h o
    have hn : nearOf s.near o = nearOf t.near (-o) := by
      unfold nearOf
      rw [h.near]
      split <;> split <;> omega
    refine ⟨h.kp, h.ki, h.step, ?_, ?_, ?_, hn⟩
    · simp only [Sv.steer, stOf]
      rw [← hn, h.st]
      split <;> (try split) <;> (try split) <;> omega
    · simp only [Sv.steer]
      rw [hf, cutI_neg _ _ (by omega)]
    · simp only [Sv.steer]
      rw [hf, hd, h.drift]
      split <;> split <;> omega
theorem mirror_fr {s t : Sv} (h : Mirror s t) (o : Int) : s.fr o = -t.fr (-o) := by
  have hs := mirror_set h o
  unfold Sv.fr
  by_cases hx : IsSet s o
  · rw [if_pos hx, if_pos (hs.1 hx)]; exact h.freq
  · rw [if_neg hx, if_neg (fun y => hx (hs.2 y))]
    simp only [Sv.steer]
    rw [mirror_f h o, cutI_neg _ _ (by omega)]
theorem mirror_by {s t : Sv} (h : Mirror s t) (o : Int) : s.by o = -t.by (-o) := by
  have hs := mirror_set h o
  unfold Sv.by
  by_cases hx : IsSet s o
  · rw [if_pos hx, if_pos (hs.1 hx)]; omega
  · rw [if_neg hx, if_neg (fun y => hx (hs.2 y))]; rfl
theorem mirror_is {s t : Sv} (h : Mirror s t) (o : Int) : decide (IsSet s o) = decide (IsSet t (-o)) := by
  by_cases hx : IsSet s o
  · rw [decide_eq_true hx, decide_eq_true ((mirror_set h o).1 hx)]
  · rw [decide_eq_false hx, decide_eq_false (fun y => hx ((mirror_set h o).2 y))]

/-- The first that is steered goes against the offset. -/
theorem first_sign {s : Sv} (hkp : 0 ≤ s.kp) (hki : 0 ≤ s.ki) (hd : s.drift = 0) {o : Int} (hs : ¬ IsSet s o) : (0 < o → s.fr o ≤ 0) ∧ (o < 0 → 0 ≤ s.fr o) := by
  unfold Sv.fr
  rw [if_neg hs]
  simp only [Sv.steer]
  constructor
  · intro ho
    have hr : 0 ≤ cutI o 512000000 := by unfold cutI; omega
    have h1 : 0 ≤ (s.kp * cutI o 512000000).tdiv 1000 := Int.tdiv_nonneg (Int.mul_nonneg hkp hr) (by omega)
    have h2 : 0 ≤ (s.ki * cutI o 512000000).tdiv 1000 := Int.tdiv_nonneg (Int.mul_nonneg hki hr) (by omega)
    have h3 : 0 ≤ s.d o := by unfold Sv.d; rw [hd]; unfold cutI at *; omega
    have h4 : s.f o ≤ 0 := by unfold Sv.f; omega
    unfold cutI; omega
  · intro ho
    have hr : cutI o 512000000 = -cutI (-o) 512000000 := by rw [cutI_neg _ _ (by omega), Int.neg_neg]
    have hr2 : 0 ≤ cutI (-o) 512000000 := by unfold cutI; omega
    have h1 : 0 ≤ (s.kp * cutI (-o) 512000000).tdiv 1000 := Int.tdiv_nonneg (Int.mul_nonneg hkp hr2) (by omega)
    have h2 : 0 ≤ (s.ki * cutI (-o) 512000000).tdiv 1000 := Int.tdiv_nonneg (Int.mul_nonneg hki hr2) (by omega)
    have h3 : s.d o ≤ 0 := by
      unfold Sv.d
      rw [hd, hr, Int.mul_neg, Int.neg_tdiv]
      unfold cutI at *
      omega
    have h4 : 0 ≤ s.f o := by
      unfold Sv.f
      rw [hr, Int.mul_neg, Int.neg_tdiv]
      omega
    unfold cutI; omega

theorem first_st {s : Sv} (h : s.st = 0) (o : Int) : (s.next o).st = 1 ∧ (s.next o).drift = s.drift ∧ (s.next o).freq = s.freq := by
  have hs : IsSet s o := .inl h
  unfold Sv.next
  rw [if_pos hs]
  exact ⟨rfl, rfl, rfl⟩
theorem fr_is (s : Sv) (o : Int) : s.fr o = (s.next o).freq := by
  unfold Sv.fr Sv.next
  split <;> rfl

set_option maxHeartbeats 2000000 in
set_option maxRecDepth 100000 in
theorem servoSigns_walk (a0 : Int) (a1 : Int) (a2 : Option Addr) (len2 cap2 : Nat) (z2 : List Int) (w : World) (_ : (Lit.int .i64 a0).wf = true) (_ : (Lit.int .i64 a1).wf = true) (w2 : IsRow .i64 w a2 len2 cap2 z2) :
    Calls Try.prog 4 #[.int .i64 a0, .int .i64 a1, .slice a2 len2 cap2] w fun e w' => e = .returned (.bool true) ∧ Below w.heap.size w w' := by
  have l2 := row_len w2
  have p0 := Int.emod_nonneg a0 (b := 2001) (by omega)
  have p1 := Int.emod_lt_of_pos a0 (b := 2001) (by omega)
  have q0 := Int.emod_nonneg a1 (b := 2001) (by omega)
  have q1 := Int.emod_lt_of_pos a1 (b := 2001) (by omega)
  go_enter Try.func4, Try.ntmps4
  go_wp2_with fail
  refine (place_any _ _ _ (by omega) (by omega)).mono ?_
  rintro e u1 ⟨rfl, rfl⟩
  go_wp2_with fail
  refine (place_any _ _ _ (by omega) (by omega)).mono ?_
  rintro e u1 ⟨rfl, rfl⟩
  go_wp2_with fail
  refine (new_any _ _ _ _).mono ?_
  rintro e u1 ⟨rfl, hb1, hg1⟩
  go_wp2_with fail
  refine (place_any _ _ _ (by omega) (by omega)).mono ?_
  rintro e u2 ⟨rfl, rfl⟩
  go_wp2_with fail
  refine (place_any _ _ _ (by omega) (by omega)).mono ?_
  rintro e u2 ⟨rfl, rfl⟩
  go_wp2_with fail
  refine (new_any _ _ _ _).mono ?_
  rintro e u2 ⟨rfl, hb2, hg2⟩
  generalize hs0 : Sv.new (a0 % 2001) (a1 % 2001) 1000000000 = s0 at *
  have hOk0 : s0.Ok 0 := by rw [← hs0]; exact new_ok _ _ _
  have hStep0 : s0.step = 1000000000 := by rw [← hs0]; rfl
  have hF0 : s0.st = 0 ∧ s0.freq = 0 ∧ s0.drift = 0 := by rw [← hs0]; exact ⟨rfl, rfl, rfl⟩
  have hM0 : Mirror s0 s0 := ⟨rfl, rfl, rfl, rfl, by rw [hF0.2.1]; rfl, by rw [hF0.2.2]; rfl, rfl⟩
  have H0 := hide (And.intro hOk0 (And.intro hStep0 (And.intro hF0 hM0)))
  clear hs0 hOk0 hStep0 hF0 hM0 p0 p1 q0 q1
  have hs2 : SvAt u2 w.heap.size s0 := Blk.other hb1 hg2 (by simp)
  have g2 := gb_trans hg1 hg2
  have hlt := hb1.lt
  clear hb1 hg1 hg2
  go_wp2_with fail
  go_loopw [9] (fun i wr => ∃ (k : Nat) (s t : Sv), i = .int .i64 k ∧ k ≤ len2 ∧ k ≤ 40 ∧ s.Ok k ∧ t.Ok k ∧ Mirror s t ∧ s.step = 1000000000 ∧ (k = 0 → s.st = 0) ∧ (k ≤ 1 → s.drift = 0) ∧ (1 ≤ k → s.st ≠ 0) ∧ SvAt wr w.heap.size s ∧ SvAt wr u1.heap.size t ∧ w.grownBy wr none) (fun i _ => 40 - (intOf i).toNat)
  case atStart => exact ⟨0, s0, s0, rfl, by omega, by omega, H0.out.1, H0.out.1, H0.out.2.2.2, H0.out.2.1, fun _ => H0.out.2.2.1.1, fun _ => H0.out.2.2.1.2.2, fun h => by omega, hs2, hb2, g2⟩
  case round =>
    obtain ⟨k, s, t, rfl, hk0, hk1, hok, hot, hmir, hstep, hst, hdr, hst1, hb, hc, hg⟩ := hrel
    clear hs2 hb2 g2 H0
    by_cases hkk : k < len2 ∧ k < 40
    · obtain ⟨hk, hk2⟩ := hkk
      obtain ⟨b, off, rfl, hz, hbw, hrow⟩ := row_open w2 (by omega)
      have hcell := ((hrow.kept hg) k (by omega)).1
      have p0 := Int.emod_nonneg (z2[k]?.getD 0) (b := 2000001) (by omega)
      have p1 := Int.emod_lt_of_pos (z2[k]?.getD 0) (b := 2000001) (by omega)
      have HI := hide (And.intro hmir (And.intro hstep (And.intro hst (And.intro hdr hst1))))
      clear hmir hstep hst hdr hst1
      go_wp2_with fail
      refine (place_any _ _ _ (by omega) (by omega)).mono ?_
      rintro e u5 ⟨rfl, rfl⟩
      clear hcell
      go_wp2_with fail
      have o0 : -1000000 ≤ z2[k]?.getD 0 % 2000001 - 1000000 := by omega
      have o1 : z2[k]?.getD 0 % 2000001 - 1000000 ≤ 1000000 := by omega
      clear p0 p1
      generalize z2[k]?.getD 0 % 2000001 - 1000000 = o at *
      obtain ⟨hmir, hstep, hst, hdr, hst1⟩ := HI.out
      have hns : k ≠ 0 → ¬ IsSet s o := fun h => by unfold IsSet; rw [hstep]; have := hst1 (by omega); omega
      have hsg : k = 1 → (0 < o → s.fr o ≤ 0) ∧ (o < 0 → 0 ≤ s.fr o) := fun h => first_sign hok.kp.1 hok.ki.1 (hdr (by omega)) (hns (by omega))
      have hS := sample_any w.heap.size o s wr _ hb hok (by omega) o (cutI_in (by omega) (by omega))
      have hmf := mirror_fr hmir o
      have hmb := mirror_by hmir o
      have hmi := mirror_is hmir o
      have hmn := mirror_next hmir o
      have hokn := next_ok hok (by omega) o
      have hotn := next_ok hot (by omega) (-o)
      have hstn : k = 0 → (s.next o).drift = 0 := fun h => by rw [(first_st (hst h) o).2.1]; exact hdr (by omega)
      have hstn1 : (s.next o).st ≠ 0 := by
        rcases Nat.eq_zero_or_pos k with h | h
        · rw [(first_st (hst h) o).1]; omega
        · have := hst1 h
          unfold Sv.next
          rw [if_neg (hns (by omega))]
          simp only [Sv.steer, stOf]
          split <;> (try split) <;> omega
      have hstepn : (s.next o).step = 1000000000 := by rw [← hstep]; unfold Sv.next; split <;> rfl
      have f0 := hotn.freq.1
      have f1 := hotn.freq.2
      have d0 := hotn.drift.1
      have d1 := hotn.drift.2
      have hfe : t.fr (-o) = (t.next (-o)).freq := fr_is t (-o)
      have hde := hmn.drift
      have hse := hmn.st
      have hby0 : -1000000 ≤ t.by (-o) ∧ t.by (-o) ≤ 1000000 := by unfold Sv.by; split <;> omega
      have b0 := hby0.1
      have b1 := hby0.2
      rw [hmb, hmf, hmi] at hS
      rw [hmf] at hsg
      rw [hfe] at hS hsg
      have HN := hide (And.intro hokn (And.intro hotn (And.intro hmn (And.intro hstepn (And.intro hstn hstn1)))))
      have HDE := hide hde
      have HSE := hide hse
      have HFE := hide hfe
      have HSG := hide hsg
      clear hns hmf hmb hmi hmn hokn hotn hstn hstn1 hstepn hfe hde hse hsg hmir hstep hst hdr hst1 HI hby0
      refine hS.mono ?_
      clear hS
      rintro e u5 ⟨rfl, hb5, hg5⟩
      have hc5 := svAt_other hc hg5 (Nat.ne_of_gt hlt)
      have g5 := gb_young hg hg5 (Nat.le_refl _)
      clear hb hc hg hg5
      go_wp2_with fail
      have hT := sample_any u1.heap.size (-o) t u5 _ hc5 hot (by omega) (-o) (cutI_in (by omega) (by omega))
      rw [HFE.out] at hT
      refine hT.mono ?_
      clear hT
      rintro e u6 ⟨rfl, hc6, hg6⟩
      have hb6 := svAt_other hb5 hg6 (Nat.ne_of_lt hlt)
      have g6 := gb_young g5 hg6 (Nat.le_of_lt hlt)
      clear hb5 hc5 g5 hg6
      go_wp2_with fail
      refine (drift_any _ _ _ hb6).mono ?_
      rintro e u7 ⟨rfl, rfl⟩
      rw [HDE.out]
      go_wp2_with fail
      refine (drift_any _ _ _ hc6).mono ?_
      rintro e u7 ⟨rfl, rfl⟩
      go_wp2_with fail
      refine (state_any _ _ _ hb6).mono ?_
      rintro e u7 ⟨rfl, rfl⟩
      rw [HSE.out]
      go_wp2_with fail
      refine (state_any _ _ _ hc6).mono ?_
      rintro e u7 ⟨rfl, rfl⟩
      have HE : Hid (SvAt u6 w.heap.size (s.next o) ∧ SvAt u6 u1.heap.size (t.next (-o))) := ⟨hb6, hc6⟩
      clear hb6 hc6
      generalize hF : (t.next (-o)).freq = F at *
      have HF := hide hF
      clear hF
      rcases (show (k ≠ 1) ∨ (k = 1 ∧ o = 0) ∨ (k = 1 ∧ 0 < o) ∨ (k = 1 ∧ o < 0) from by omega) with h1 | ⟨h1, h2⟩ | ⟨h1, h2⟩ | ⟨h1, h2⟩
      · have t1 : ((k : Int) == 1) = false := by rw [beq_eq_false_iff_ne]; omega
        clear h1
        go_wp2
        exact ⟨⟨k + 1, s.next o, t.next (-o), by go_num, by omega, by omega, HN.out.1, HN.out.2.1, HN.out.2.2.1, HN.out.2.2.2.1, fun h => by omega, fun h => HN.out.2.2.2.2.1 (by omega), fun _ => HN.out.2.2.2.2.2, HE.out.1, HE.out.2, g6⟩, by simp [intOf]; omega⟩
      all_goals
        have t1 : ((k : Int) == 1) = true := by rw [beq_iff_eq]; omega
        have hg1 := HSG.out h1
        have hu : 0 < o → ¬ 0 < -F := fun h => by have := hg1.1 h; omega
        have hv : o < 0 → ¬ -F < 0 := fun h => by have := hg1.2 h; omega
        clear h1 hg1
        first
          | (have s1 : ¬ 0 < o := by omega
             have s2 : ¬ o < 0 := by omega
             clear hu hv h2
             go_wp2
             exact ⟨⟨k + 1, s.next o, t.next (-o), by go_num, by omega, by omega, HN.out.1, HN.out.2.1, HN.out.2.2.1, HN.out.2.2.2.1, fun h => by omega, fun h => HN.out.2.2.2.2.1 (by omega), fun _ => HN.out.2.2.2.2.2, HE.out.1, HE.out.2, g6⟩, by simp [intOf]; omega⟩)
          | (have s1 := hu h2
             clear hu hv
             go_wp2
             exact ⟨⟨k + 1, s.next o, t.next (-o), by go_num, by omega, by omega, HN.out.1, HN.out.2.1, HN.out.2.2.1, HN.out.2.2.2.1, fun h => by omega, fun h => HN.out.2.2.2.2.1 (by omega), fun _ => HN.out.2.2.2.2.2, HE.out.1, HE.out.2, g6⟩, by simp [intOf]; omega⟩)
          | (have s1 := hv h2
             clear hu hv
             go_wp2
             exact ⟨⟨k + 1, s.next o, t.next (-o), by go_num, by omega, by omega, HN.out.1, HN.out.2.1, HN.out.2.2.1, HN.out.2.2.2.1, fun h => by omega, fun h => HN.out.2.2.2.2.1 (by omega), fun _ => HN.out.2.2.2.2.2, HE.out.1, HE.out.2, g6⟩, by simp [intOf]; omega⟩)
    · rcases (show ¬ k < len2 ∨ (k < len2 ∧ ¬ k < 40) from by omega) with hx | ⟨hx, hy⟩ <;> go_wp2_with fail
      all_goals
        refine (awake_any _).mono ?_
        rintro e u5 ⟨rfl, hg5⟩
        go_wp2
        go_ret
        exact ⟨rfl, below_of_gb (gb_trans hg hg5)⟩
end Go.Proofs.Ytjbkffhbgcoliaa
