/- The walk of ServoSettles. -/
import Derived.Test.YtjbkffhbgcoliaaSample
import Derived.Test.YtjbkffhbgcoliaaTraj
namespace Go.Proofs.Ytjbkffhbgcoliaa
open Go.RowKit

structure Inv (i : Nat) (r x : Int) (s : Sv) : Prop where
  ok : s.Ok i
  kp : s.kp = 700
  ki : s.ki = 300
  step : s.step = 20000000
  first : i = 0 → s.st = 0 ∧ s.freq = 0 ∧ s.drift = 0
  then_ : 1 ≤ i → s.st ≠ 0 ∧ (x, s.drift) = Tr.traj r (i - 1)
  small : -1000000 ≤ x ∧ x ≤ 1000000
  near : 81 ≤ i → (i : Int) - 81 ≤ s.near
  lock : 84 ≤ i → s.st = 2

theorem inv_zero {r x : Int} {s : Sv} (h : Inv 0 r x s) (h0 : -50000 ≤ r) (h1 : r ≤ 50000) :
    IsSet s x ∧ s.by x = -x ∧ s.fr x = 0 ∧ Inv 1 r r (s.next x) := by
  obtain ⟨hs, hf, hd⟩ := h.first rfl
  have hset : IsSet s x := .inl hs
  have hn : s.next x = s.set := by unfold Sv.next; rw [if_pos hset]
  refine ⟨hset, by unfold Sv.by; rw [if_pos hset], by unfold Sv.fr; rw [if_pos hset]; exact hf, ?_⟩
  have hok := next_ok h.ok (by omega) x
  rw [hn] at hok ⊢
  refine ⟨hok, h.kp, h.ki, h.step, fun e => by omega, fun _ => ⟨by simp [Sv.set], ?_⟩, by omega, fun e => by omega, fun e => by omega⟩
  simp only [Sv.set]
  rw [hd]
  rfl

theorem inv_next {i : Nat} {r x : Int} {s : Sv} (h : Inv i r x s) (hi : 1 ≤ i) (h0 : -50000 ≤ r) (h1 : r ≤ 50000) :
    ¬ IsSet s x ∧ Inv (i + 1) r (x + r + s.fr x) (s.next x) ∧ (80 < i → -100 ≤ x + r + s.fr x ∧ x + r + s.fr x ≤ 100) := by
  obtain ⟨hst, htr⟩ := h.then_ hi
  have ha := Tr.traj_all r h0 h1 (i - 1)
  have hb := Tr.traj_all r h0 h1 i
  have hl := Tr.traj_late r h0 h1 i
  have hl' := Tr.traj_late r h0 h1 (i - 1)
  have hnx : Tr.traj r i = Tr.next r (Tr.traj r (i - 1)) := by
    obtain ⟨j, rfl⟩ : ∃ j, i = j + 1 := ⟨i - 1, by omega⟩
    rfl
  rw [← htr] at ha hnx hl'
  rw [hnx] at hb hl
  simp only [Tr.In, Tr.next] at ha hb hl hl'
  obtain ⟨x0, x1, d0, d1⟩ := ha
  have hset : ¬ IsSet s x := by
    unfold IsSet
    rw [h.step]
    omega
  have hr : cutI x 512000000 = x := cutI_in (by omega) (by omega)
  have hd : s.d x = s.drift + (300 * x).tdiv 1000 := by
    unfold Sv.d
    rw [hr, h.ki]
    exact cutI_in (by omega) (by omega)
  have hf : s.f x = -((700 * x).tdiv 1000) - (s.drift + (300 * x).tdiv 1000) := by
    unfold Sv.f
    rw [hr, h.kp, hd]
  have hfb : -512000 ≤ s.f x ∧ s.f x ≤ 512000 := by rw [hf]; omega
  have hfr : s.fr x = s.f x := by
    unfold Sv.fr
    rw [if_neg hset]
    exact cutI_in hfb.1 hfb.2
  have hn : s.next x = s.steer x := by unfold Sv.next; rw [if_neg hset]
  have hok := next_ok h.ok (by omega) x
  have hkp := h.kp
  have hki := h.ki
  have hstep := h.step
  have hnear := h.near
  have hok0 := h.ok.near.1
  have hlock := h.lock
  rw [hn] at hok ⊢
  have hdr : (s.steer x).drift = s.drift + (300 * x).tdiv 1000 := by
    simp only [Sv.steer]
    rw [if_neg (by omega), hd]
  rw [hfr]
  have hx' : x + r + s.f x = x + r + (-((700 * x).tdiv 1000) - (s.drift + (300 * x).tdiv 1000)) := by rw [hf]
  have hnn : 81 ≤ i → nearOf s.near x = s.near + 1 := fun e => by
    have := hl' (by omega)
    unfold nearOf
    rw [if_neg (by omega)]
  refine ⟨hset, ⟨?_, hkp, hki, hstep, fun e => by omega, fun _ => ⟨?_, ?_⟩, ?_, ?_, ?_⟩, ?_⟩
  · rw [show ((i + 1 : Nat) : Int) = (i : Int) + 1 from by omega]; exact hok
  · simp only [Sv.steer, stOf]
    split <;> (try split) <;> omega
  · rw [hdr, hx', show i + 1 - 1 = i from by omega, hnx]
    rfl
  · omega
  · intro e
    simp only [Sv.steer]
    rcases Nat.lt_or_ge i 81 with hc | hc
    · have : 0 ≤ nearOf s.near x := by unfold nearOf; split <;> omega
      omega
    · rw [hnn hc]
      have := hnear hc
      omega
  · intro e
    have h2 := hnn (by omega)
    have h3 := hnear (by omega)
    simp only [Sv.steer, stOf]
    rw [h2, if_pos (by omega)]
  · intro e
    have := hl (by omega)
    omega

set_option maxHeartbeats 1000000 in
set_option maxRecDepth 100000 in
theorem servoSettles_walk (a0 : Int) (a1 : Int) (_ : (Lit.int .i64 a0).wf = true) (_ : (Lit.int .i64 a1).wf = true) (w : World) :
    Calls Try.prog 3 #[.int .i64 a0, .int .i64 a1] w fun e w' => e = .returned (.bool true) ∧ Below w.heap.size w w' := by
  have p0 := Int.emod_nonneg a0 (b := 100001) (by omega)
  have p1 := Int.emod_lt_of_pos a0 (b := 100001) (by omega)
  have q0 := Int.emod_nonneg a1 (b := 2000001) (by omega)
  have q1 := Int.emod_lt_of_pos a1 (b := 2000001) (by omega)
  go_enter Try.func3, Try.ntmps3
  go_wp2_with fail
  refine (new_any _ _ _ _).mono ?_
  rintro e w1 ⟨rfl, hb1, hg1⟩
  rw [show Sv.new 700 300 20000000 = ⟨700, 300, 20000000, 0, 0, 0, 0⟩ from by decide] at hb1
  go_wp2_with fail
  refine (place_any _ _ _ (by omega) (by omega)).mono ?_
  rintro e w2 ⟨rfl, rfl⟩
  go_wp2_with fail
  refine (place_any _ _ _ (by omega) (by omega)).mono ?_
  rintro e w2 ⟨rfl, rfl⟩
  go_wp2_with fail
  have r0 : -50000 ≤ a0 % 100001 - 50000 := by omega
  have r1 : a0 % 100001 - 50000 ≤ 50000 := by omega
  generalize a0 % 100001 - 50000 = r at *
  go_loopw [7, 8] (fun o i wr => ∃ (k : Nat) (x : Int) (s : Sv), i = .int .i64 k ∧ o = .int .i64 x ∧ k ≤ 120 ∧ Inv k r x s ∧ SvAt wr w.heap.size s ∧ w.grownBy wr none) (fun _ i _ => 120 - (intOf i).toNat)
  case atStart => exact ⟨0, a1 % 2000001 - 1000000, _, rfl, rfl, by omega, ⟨by refine ⟨?_, ?_, ?_, ?_, ?_, ?_, ?_⟩ <;> decide, rfl, rfl, rfl, fun _ => ⟨rfl, rfl, rfl⟩, fun e => by omega, by omega, fun e => by omega, fun e => by omega⟩, hb1, hg1⟩
  case round =>
    obtain ⟨k, x, s, rfl, rfl, hk, hI, hb, hg⟩ := hrel
    clear hb1 hg1 p0 p1 q0 q1
    have HI := hide hI
    have x0 := hI.small.1
    have x1 := hI.small.2
    have hok := hI.ok
    clear hI
    rcases (show k = 0 ∨ (1 ≤ k ∧ k < 120 ∧ ¬ 80 < k) ∨ (1 ≤ k ∧ k < 120 ∧ 80 < k) ∨ k = 120 from by omega) with h | ⟨h, h', h''⟩ | ⟨h, h', h''⟩ | h
    · subst h
      obtain ⟨c1, c2, c3, c4⟩ := inv_zero HI.out r0 r1
      go_wp2_with fail
      have hS := sample_is w.heap.size x s wr _ hb hok (by omega) x (cutI_in (by omega) (by omega)) c2 (decide_eq_true c1) c3 rfl
      clear c1 c2 c3
      refine hS.mono ?_
      clear hS
      rintro e u5 ⟨rfl, hb5, hg5⟩
      have g5 := gb_young hg hg5 (Nat.le_refl _)
      have C4 := hide c4
      clear hb hg hg5 c4 HI hok
      go_wp2
      exact ⟨⟨1, r, s.next x, rfl, by congr 1; omega, by omega, C4.out, hb5, g5⟩, by simp [intOf]⟩
    · obtain ⟨c1, c2, c3⟩ := inv_next HI.out h r0 r1
      have F0 := (next_ok hok (by omega) x).freq
      have e1 : s.fr x = (s.next x).freq := by unfold Sv.fr Sv.next; rw [if_neg c1, if_neg c1]
      rw [← e1] at F0
      have f0 := F0.1
      have f1 := F0.2
      clear F0 e1
      go_wp2_with fail
      have hS := sample_is w.heap.size x s wr _ hb hok (by omega) x (cutI_in (by omega) (by omega)) (y := 0) (by unfold Sv.by; rw [if_neg c1]) (decide_eq_false c1) rfl rfl
      refine hS.mono ?_
      clear hS
      rintro e u5 ⟨rfl, hb5, hg5⟩
      have g5 := gb_young hg hg5 (Nat.le_refl _)
      have C2 := hide c2
      clear hb hg hg5 c1 c2 c3 HI hok
      generalize s.fr x = F at *
      go_wp2
      exact ⟨⟨k + 1, x + r + F, s.next x, by go_num, rfl, by omega, C2.out, hb5, g5⟩, by simp [intOf]; omega⟩
    · obtain ⟨c1, c2, c3⟩ := inv_next HI.out h r0 r1
      have y0 := (c3 h'').1
      have y1 := (c3 h'').2
      have F0 := (next_ok hok (by omega) x).freq
      have e1 : s.fr x = (s.next x).freq := by unfold Sv.fr Sv.next; rw [if_neg c1, if_neg c1]
      rw [← e1] at F0
      have f0 := F0.1
      have f1 := F0.2
      clear F0 e1
      go_wp2_with fail
      have hS := sample_is w.heap.size x s wr _ hb hok (by omega) x (cutI_in (by omega) (by omega)) (y := 0) (by unfold Sv.by; rw [if_neg c1]) (decide_eq_false c1) rfl rfl
      refine hS.mono ?_
      clear hS
      rintro e u5 ⟨rfl, hb5, hg5⟩
      have g5 := gb_young hg hg5 (Nat.le_refl _)
      have C2 := hide c2
      clear hb hg hg5 c1 c2 c3 HI hok
      generalize s.fr x = F at *
      go_wp2
      exact ⟨⟨k + 1, x + r + F, s.next x, by go_num, rfl, by omega, C2.out, hb5, g5⟩, by simp [intOf]; omega⟩
    · subst h
      have hl := HI.out.lock (by omega)
      go_wp2_with fail
      refine (state_any _ _ _ hb).mono ?_
      rintro e u6 ⟨rfl, rfl⟩
      rw [hl]
      clear hl
      go_wp2_with fail
      refine (awake_any _).mono ?_
      rintro e u5 ⟨rfl, hg5⟩
      go_wp2
      go_ret
      exact ⟨rfl, below_of_gb (gb_trans hg hg5)⟩
end Go.Proofs.Ytjbkffhbgcoliaa
