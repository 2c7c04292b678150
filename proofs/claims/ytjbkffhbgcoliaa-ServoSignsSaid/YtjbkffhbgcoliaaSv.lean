/- The servo, as a plain machine over whole numbers; contracts of servo.New, cut, State, Freq, Drift, Reset and of Place. -/
import Derived.Test.YtjbkffhbgcoliaaObj
namespace Go.Proofs.Ytjbkffhbgcoliaa
open Go.RowKit
attribute [local go_sem] max_two min_two max2_max min2_min

theorem emod_of_tmod {v n : Int} (hn : 0 < n) : (v.tmod n < 0 → v.tmod n + n = v % n) ∧ (0 ≤ v.tmod n → v.tmod n = v % n) := by
  have h1 := Int.tmod_add_mul_tdiv v n
  have h2 := Int.emod_add_mul_ediv v n
  have h3 := Int.emod_nonneg v (b := n) (by omega)
  have h4 := Int.emod_lt_of_pos v hn
  constructor
  · intro h
    rw [Int.tmod_eq_emod] at h ⊢
    split at h <;> rename_i hc
    · omega
    · rw [if_neg hc]
      omega
  · intro h
    rw [Int.tmod_eq_emod] at h ⊢
    split at h <;> rename_i hc
    · rw [if_pos hc]; simp
    · omega

theorem place_any (v n : Int) (w : World) (hn0 : 0 < n) (hn1 : n ≤ 4611686018427387904) :
    Calls Try.prog 10 #[.int .i64 v, .int .i64 n] w fun e w' => e = .returned (.int .i64 (v % n)) ∧ w = w' := by
  have h1 := (emod_of_tmod (v := v) hn0).1
  have h2 := (emod_of_tmod (v := v) hn0).2
  have h3 := Int.emod_nonneg v (b := n) (by omega)
  have h4 := Int.emod_lt_of_pos v hn0
  have H1 := hide h1; clear h1
  have H2 := hide h2; clear h2
  go_enter Try.func10, Try.ntmps10
  go_wp2
  · go_ret
    refine ⟨ret_int ?_, rfl⟩
    have h : v.tmod n < 0 := by assumption
    rw [H1.out h]
    unfold wrap64
    omega
  · go_ret
    refine ⟨ret_int ?_, rfl⟩
    exact H2.out (by assumption)

def cutI (v m : Int) : Int := max (-m) (min v m)
def clampI (v m : Int) : Int := max 0 (min v m)
theorem cutI_bd (v m : Int) (hm : 0 ≤ m) : -m ≤ cutI v m ∧ cutI v m ≤ m := by unfold cutI; omega
theorem cutI_in {v m : Int} (h1 : -m ≤ v) (h2 : v ≤ m) : cutI v m = v := by unfold cutI; omega

theorem cut_any (v m : Int) (w : World) (hm0 : 0 ≤ m) (hm1 : m ≤ 4611686018427387904) :
    Calls Try.prog 17 #[.int .i64 v, .int .i64 m] w fun e w' => e = .returned (.int .i64 (cutI v m)) ∧ w = w' := by
  go_enter Try.func17, Try.ntmps17
  go_wp2
  go_ret
  exact ⟨rfl, rfl⟩

structure Sv where
  kp : Int
  ki : Int
  step : Int
  st : Int
  freq : Int
  drift : Int
  near : Int
  deriving DecidableEq

def Sv.cells (s : Sv) : Array Value := #[.int .i64 s.kp, .int .i64 s.ki, .int .i64 s.step, .int .i64 s.st, .int .i64 s.freq, .int .i64 s.drift, .int .i64 s.near]
def SvAt (w : World) (b : Nat) (s : Sv) : Prop := Blk w b 36 s.cells
def Sv.new (kp ki step : Int) : Sv := ⟨clampI kp 2000, clampI ki 2000, clampI step 1000000000, 0, 0, 0, 0⟩

theorem new_any (kp ki step : Int) (w : World) :
    Calls Try.prog 9 #[.int .i64 kp, .int .i64 ki, .int .i64 step] w fun e w' => e = .returned (.pointer (some ⟨w.heap.size, 0, none⟩)) ∧ SvAt w' w.heap.size (Sv.new kp ki step) ∧ w.grownBy w' none := by
  go_enter Try.func9, Try.ntmps9
  go_wp2
  go_ret
  exact ⟨rfl, Blk.new _ _ _, gb_alloc (gb_refl _ _) _⟩

theorem state_any (b : Nat) (s : Sv) (w : World) (hb : SvAt w b s) :
    Calls Try.prog 12 #[.pointer (some ⟨b, 0, none⟩)] w fun e w' => e = .returned (.int .i64 s.st) ∧ w = w' := by
  have hc : w.cell? ⟨b, 3, none⟩ = some (.int .i64 s.st) := Blk.cell hb 3
  go_enter Try.func12, Try.ntmps12
  go_wp2
  go_ret
  exact ⟨rfl, rfl⟩
theorem freq_any (b : Nat) (s : Sv) (w : World) (hb : SvAt w b s) :
    Calls Try.prog 15 #[.pointer (some ⟨b, 0, none⟩)] w fun e w' => e = .returned (.int .i64 s.freq) ∧ w = w' := by
  have hc : w.cell? ⟨b, 4, none⟩ = some (.int .i64 s.freq) := Blk.cell hb 4
  go_enter Try.func15, Try.ntmps15
  go_wp2
  go_ret
  exact ⟨rfl, rfl⟩
theorem drift_any (b : Nat) (s : Sv) (w : World) (hb : SvAt w b s) :
    Calls Try.prog 14 #[.pointer (some ⟨b, 0, none⟩)] w fun e w' => e = .returned (.int .i64 s.drift) ∧ w = w' := by
  have hc : w.cell? ⟨b, 5, none⟩ = some (.int .i64 s.drift) := Blk.cell hb 5
  go_enter Try.func14, Try.ntmps14
  go_wp2
  go_ret
  exact ⟨rfl, rfl⟩
end Go.Proofs.Ytjbkffhbgcoliaa
