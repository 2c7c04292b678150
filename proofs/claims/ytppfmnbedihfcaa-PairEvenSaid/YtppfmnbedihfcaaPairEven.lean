/- The walk of PairEven. -/
import Derived.Test.YtppfmnbedihfcaaPr
import Derived.ChangeOld
import Derived.Below
namespace Go.Proofs.Ytppfmnbedihfcaa
open Go.RowKit
attribute [local go_sem] max_two min_two max2_max min2_min

theorem pairEven_walk (a0 : Int) (a1 : Int) (a2 : Int) (_ : (Lit.int .i64 a0).wf = true) (_ : (Lit.int .i64 a1).wf = true) (_ : (Lit.int .i64 a2).wf = true) (w : World) :
    Calls Try.prog 6 #[.int .i64 a0, .int .i64 a1, .int .i64 a2] w fun e w' => e = .returned (.bool true) ∧ Below w.heap.size w w' := by
  have p0 := Int.emod_nonneg a0 (b := 1125899906842624) (by omega)
  have p1 := Int.emod_lt_of_pos a0 (b := 1125899906842624) (by omega)
  have q0 := Int.emod_nonneg a1 (b := 1073741824) (by omega)
  have q1 := Int.emod_lt_of_pos a1 (b := 1073741824) (by omega)
  have r0 := Int.emod_nonneg a2 (b := 1073741824) (by omega)
  have r1 := Int.emod_lt_of_pos a2 (b := 1073741824) (by omega)
  go_enter Try.func6, Try.ntmps6
  go_wp2_with fail
  refine (place_any _ _ _ (by omega) (by omega)).mono ?_
  rintro e u1 ⟨rfl, rfl⟩
  generalize a0 % 1125899906842624 = s at *
  go_wp2_with fail
  refine (place_any _ _ _ (by omega) (by omega)).mono ?_
  rintro e u1 ⟨rfl, rfl⟩
  generalize a1 % 1073741824 = d at *
  go_wp2_with fail
  refine (place_any _ _ _ (by omega) (by omega)).mono ?_
  rintro e u1 ⟨rfl, rfl⟩
  generalize a2 % 1073741824 = x at *
  have HE := Exchange_in s (s + d) (s + d + x) (s + d + x + d) ⟨by omega, by omega⟩ ⟨by omega, by omega⟩ ⟨by omega, by omega⟩ ⟨by omega, by omega⟩
  rw [show (s + d - s - (s + d + x + d - (s + d + x))) / 2 = 0 by omega, show (s + d - s + (s + d + x + d - (s + d + x))) / 2 = d by omega] at HE
  have HO := Exchange_out (-1) s s s (fun h => by have := h.1.1; omega)
  have HE := hide HE
  have HO := hide HO
  go_wp2_with fail
  refine (HE.out _).mono ?_
  rintro e u1 ⟨rfl, rfl⟩
  go_wp2_with fail
  refine (HO.out _).mono ?_
  rintro e u1 ⟨rfl, rfl⟩
  go_wp2_with fail
  refine (awake_any _).mono ?_
  rintro e u1 ⟨rfl, rfl⟩
  go_wp2_with fail
  go_ret
  exact ⟨rfl, Below.refl _ _⟩
end Go.Proofs.Ytppfmnbedihfcaa
