/- Sample's contract in one; what it keeps; Reset; the statements' 'awake'. -/
import Derived.Test.YtjbkffhbgcoliaaSteer1
import Derived.Test.YtjbkffhbgcoliaaSteer2
import Derived.Test.YtjbkffhbgcoliaaSteer3
namespace Go.Proofs.Ytjbkffhbgcoliaa
open Go.RowKit
attribute [local go_sem] max_two min_two max2_max min2_min

instance (s : Sv) (o : Int) : Decidable (IsSet s o) := by unfold IsSet; infer_instance

/-- By how much it is set, whether it is, the frequency; and the servo behind it. (An interval of a second.) -/
def Sv.by (s : Sv) (o : Int) : Int := if IsSet s o then -o else 0
def Sv.fr (s : Sv) (o : Int) : Int := if IsSet s o then s.freq else (s.steer o).freq
def Sv.next (s : Sv) (o : Int) : Sv := if IsSet s o then s.set else s.steer o

theorem sample_any (b : Nat) (off : Int) (s : Sv) (w : World) (K : Int) (hb : SvAt w b s) (hk : s.Ok K) (hK : K ≤ 1000000) (o : Int) (ho : cutI off 4000000000000000 = o) :
    Calls Try.prog 11 #[.pointer (some ⟨b, 0, none⟩), .int .i64 off, .int .i64 1000000000] w fun e w' =>
      e = .returned (.tuple #[.int .i64 (s.by o), .bool (decide (IsSet s o)), .int .i64 (s.fr o)]) ∧ SvAt w' b (s.next o) ∧ w.grownBy w' (some b) := by
  subst ho
  by_cases hs : IsSet s (cutI off 4000000000000000)
  · have e : decide (IsSet s (cutI off 4000000000000000)) = true := by simpa using hs
    rw [e]
    unfold Sv.by Sv.fr Sv.next
    rw [if_pos hs, if_pos hs, if_pos hs]
    exact sample_set b off _ s w hb hk.step.1 hk.step.2 hs
  · have e : decide (IsSet s (cutI off 4000000000000000)) = false := by simpa using hs
    rw [e]
    unfold Sv.by Sv.fr Sv.next
    rw [if_neg hs, if_neg hs, if_neg hs]
    rcases (show 512000 < s.f (cutI off 4000000000000000) ∨ s.f (cutI off 4000000000000000) < -512000 ∨ (-512000 ≤ s.f (cutI off 4000000000000000) ∧ s.f (cutI off 4000000000000000) ≤ 512000) from by omega) with h | h | h
    · exact sample_steer1 b off s w K hb hk hK hs h
    · exact sample_steer2 b off s w K hb hk hK hs h
    · exact sample_steer3 b off s w K hb hk hK hs h

theorem sample_is (b : Nat) (off : Int) (s : Sv) (w : World) (K : Int) (hb : SvAt w b s) (hk : s.Ok K) (hK : K ≤ 1000000) (o : Int) (ho : cutI off 4000000000000000 = o) {y : Int} {t : Bool} {f : Int} {s' : Sv}
    (h1 : s.by o = y) (h2 : decide (IsSet s o) = t) (h3 : s.fr o = f) (h4 : s.next o = s') :
    Calls Try.prog 11 #[.pointer (some ⟨b, 0, none⟩), .int .i64 off, .int .i64 1000000000] w fun e w' =>
      e = .returned (.tuple #[.int .i64 y, .bool t, .int .i64 f]) ∧ SvAt w' b s' ∧ w.grownBy w' (some b) := by
  subst h1 h2 h3 h4
  exact sample_any b off s w K hb hk hK o ho

theorem next_ok {s : Sv} {K : Int} (h : s.Ok K) (hK : 0 ≤ K) (o : Int) : (s.next o).Ok (K + 1) := by
  obtain ⟨h1, h2, h3, h4, h5, h6, h7⟩ := h
  unfold Sv.next
  by_cases hs : IsSet s o
  · rw [if_pos hs]
    exact ⟨h1, h2, h3, h4, h5, ⟨by simp [Sv.set], by simp [Sv.set]; omega⟩, ⟨by simp [Sv.set], by simp [Sv.set]⟩⟩
  · rw [if_neg hs]
    have hf := cutI_bd (s.f o) 512000 (by omega)
    have hd : -512000 ≤ s.d o ∧ s.d o ≤ 512000 := cutI_bd _ 512000 (by omega)
    refine ⟨h1, h2, h3, hf, ?_, ?_, ?_⟩
    · simp only [Sv.steer]; split <;> omega
    · simp only [Sv.steer, nearOf]; split <;> omega
    · simp only [Sv.steer, stOf]; split <;> (try split) <;> omega
theorem new_ok (kp ki step : Int) : (Sv.new kp ki step).Ok 0 := by
  refine ⟨?_, ?_, ?_, ?_, ?_, ?_, ?_⟩ <;> simp only [Sv.new, clampI] <;> omega
theorem Sv.Ok.le {s : Sv} {K L : Int} (h : s.Ok K) (hl : K ≤ L) : s.Ok L := ⟨h.kp, h.ki, h.step, h.freq, h.drift, ⟨h.near.1, by have := h.near.2; omega⟩, h.st⟩

theorem svAt_other {w w' : World} {b c : Nat} {s : Sv} (h : SvAt w b s) (hg : w.grownBy w' (some c)) (hne : b ≠ c) : SvAt w' b s := Blk.other h hg (by simpa using hne)

set_option maxRecDepth 100000 in
theorem awake_any (w : World) : Calls Try.prog 13 #[] w fun e w' => e = .returned (.bool true) ∧ w.grownBy w' none := by
  go_enter Try.func13, Try.ntmps13
  go_wp2_with fail
  refine (new_any _ _ _ _).mono ?_
  rintro e w1 ⟨rfl, hb1, hg1⟩
  have e1 : Sv.new 700 300 20000 = ⟨700, 300, 20000, 0, 0, 0, 0⟩ := by decide
  rw [e1] at hb1
  clear e1
  go_wp2_with fail
  refine (sample_any _ 50 ⟨700, 300, 20000, 0, 0, 0, 0⟩ _ 0 hb1 ⟨by decide, by decide, by decide, by decide, by decide, by decide, by decide⟩ (by omega) 50 (by decide)).mono ?_
  rintro e w2 ⟨rfl, hb2, hg2⟩
  have g2 := gb_young hg1 hg2 (Nat.le_refl _)
  clear hg1 hg2 hb1
  rw [show Sv.by ⟨700, 300, 20000, 0, 0, 0, 0⟩ 50 = -50 from by decide, show Sv.fr ⟨700, 300, 20000, 0, 0, 0, 0⟩ 50 = 0 from by decide, show decide (IsSet ⟨700, 300, 20000, 0, 0, 0, 0⟩ 50) = true from by decide]
  rw [show Sv.next ⟨700, 300, 20000, 0, 0, 0, 0⟩ 50 = ⟨700, 300, 20000, 1, 0, 0, 0⟩ from by decide] at hb2
  go_wp2_with fail
  refine (sample_any _ 50 ⟨700, 300, 20000, 1, 0, 0, 0⟩ _ 0 hb2 ⟨by decide, by decide, by decide, by decide, by decide, by decide, by decide⟩ (by omega) 50 (by decide)).mono ?_
  rintro e w3 ⟨rfl, hb3, hg3⟩
  have g3 := gb_young g2 hg3 (Nat.le_refl _)
  clear hg3 g2 hb2 hb3
  rw [show Sv.by ⟨700, 300, 20000, 1, 0, 0, 0⟩ 50 = 0 from by decide, show Sv.fr ⟨700, 300, 20000, 1, 0, 0, 0⟩ 50 = -50 from by decide, show decide (IsSet ⟨700, 300, 20000, 1, 0, 0, 0⟩ 50) = false from by decide]
  go_wp2
  go_ret
  exact ⟨rfl, g3⟩
end Go.Proofs.Ytjbkffhbgcoliaa
