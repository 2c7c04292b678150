/- The walk of PairShift. -/
import Derived.Test.YtppfmnbedihfcaaPr
import Derived.ChangeOld
import Derived.Below
namespace Go.Proofs.Ytppfmnbedihfcaa
open Go.RowKit
attribute [local go_sem] max_two min_two max2_max min2_min

theorem pairShift_walk (a0 : Int) (a1 : Int) (a2 : Int) (a3 : Int) (_ : (Lit.int .i64 a0).wf = true) (_ : (Lit.int .i64 a1).wf = true) (_ : (Lit.int .i64 a2).wf = true) (_ : (Lit.int .i64 a3).wf = true) (w : World) :
    Calls Try.prog 5 #[.int .i64 a0, .int .i64 a1, .int .i64 a2, .int .i64 a3] w fun e w' => e = .returned (.bool true) ∧ Below w.heap.size w w' := by
  have p0 := Int.emod_nonneg a0 (b := 1099511627776) (by omega)
  have p1 := Int.emod_lt_of_pos a0 (b := 1099511627776) (by omega)
  have q0 := Int.emod_nonneg a1 (b := 1000000) (by omega)
  have q1 := Int.emod_lt_of_pos a1 (b := 1000000) (by omega)
  have r0 := Int.emod_nonneg a2 (b := 100000) (by omega)
  have r1 := Int.emod_lt_of_pos a2 (b := 100000) (by omega)
  have s0 := Int.emod_nonneg a3 (b := 1000000) (by omega)
  have s1 := Int.emod_lt_of_pos a3 (b := 1000000) (by omega)
  go_enter Try.func5, Try.ntmps5
  go_wp2_with fail
  refine (place_any _ _ _ (by omega) (by omega)).mono ?_
  rintro e u1 ⟨rfl, rfl⟩
  generalize a0 % 1099511627776 = t at *
  go_wp2_with fail
  refine (place_any _ _ _ (by omega) (by omega)).mono ?_
  rintro e u1 ⟨rfl, rfl⟩
  generalize a1 % 1000000 = o at *
  go_wp2_with fail
  refine (place_any _ _ _ (by omega) (by omega)).mono ?_
  rintro e u1 ⟨rfl, rfl⟩
  generalize a2 % 100000 = d at *
  go_wp2_with fail
  refine (place_any _ _ _ (by omega) (by omega)).mono ?_
  rintro e u1 ⟨rfl, rfl⟩
  generalize a3 % 1000000 = x at *
  obtain ⟨s, hs⟩ : ∃ s, s = 1000000000 + t := ⟨_, rfl⟩
  have l0 : 1000000000 ≤ s := by omega
  have l1 : s ≤ 1100511627776 := by omega
  rw [← hs]
  clear p0 p1 hs
  have HE := Exchange_in s (s + d + o) (s + d + o + 5) (s + d + d + 5) ⟨by omega, by omega⟩ ⟨by omega, by omega⟩ ⟨by omega, by omega⟩ ⟨by omega, by omega⟩
  rw [show (s + d + o - s - (s + d + d + 5 - (s + d + o + 5))) / 2 = o by omega, show (s + d + o - s + (s + d + d + 5 - (s + d + o + 5))) / 2 = d by omega] at HE
  have HF := Exchange_in s (s + d + o + x) (s + d + o + x + 5) (s + d + d + 5) ⟨by omega, by omega⟩ ⟨by omega, by omega⟩ ⟨by omega, by omega⟩ ⟨by omega, by omega⟩
  rw [show (s + d + o + x - s - (s + d + d + 5 - (s + d + o + x + 5))) / 2 = o + x by omega, show (s + d + o + x - s + (s + d + d + 5 - (s + d + o + x + 5))) / 2 = d by omega] at HF
  have HE := hide HE
  have HF := hide HF
  go_wp2_with fail
  refine (HE.out _).mono ?_
  rintro e u1 ⟨rfl, rfl⟩
  go_wp2_with fail
  refine (HF.out _).mono ?_
  rintro e u1 ⟨rfl, rfl⟩
  go_wp2_with fail
  refine (awake_any _).mono ?_
  rintro e u1 ⟨rfl, rfl⟩
  go_wp2_with fail
  go_ret
  exact ⟨rfl, Below.refl _ _⟩
end Go.Proofs.Ytppfmnbedihfcaa
