/- The walk of MedianOrder. -/
import Derived.Test.YtadabpkfkdbafaaMed2
import Derived.Test.YtadabpkfkdbafaaSrt
namespace Go.Proofs.Ytadabpkfkdbafaa
open Go.RowKit
attribute [local go_sem] max_two min_two max2_max min2_min

theorem FiAt.other {w w' : World} {b : Nat} {vals : List Int} {most : Int} {row : Option Nat} (h : FiAt w b vals most) (hg : w.grownBy w' row) (hne : some b ≠ row) : FiAt w' b vals most := by
  obtain ⟨junk, hI, r⟩ := h
  exact ⟨junk, Blk.other hI hg hne, r⟩
theorem FiAt.lt {w : World} {b : Nat} {vals : List Int} {most : Int} (h : FiAt w b vals most) : b < w.heap.size := by
  obtain ⟨junk, hI, r⟩ := h
  exact Blk.lt hI
theorem put_less (vals : List Int) (most v : Int) (h : (vals.length : Int) < most) : put vals most v = vals ++ [v] := by
  unfold put
  rw [if_neg (by omega)]

/-- Turned and taken from behind, a list is a list in another order. -/
theorem turned_perm (z : List Int) (n p : Nat) (hp : p < n) : ((List.range n).map fun i => z.getD (n - 1 - (i + p) % n) 0).Perm ((List.range n).map fun i => z.getD i 0) := by
  have e1 : ((List.range n).map fun i => (i + p) % n) = List.range' p (n - p) ++ List.range p := by
    apply List.ext_getElem
    · simp; omega
    · intro i h1 h2
      simp only [List.getElem_map, List.getElem_range, List.getElem_append, List.length_range', List.getElem_range']
      simp at h1
      split
      · rw [Nat.mod_eq_of_lt (by omega)]; omega
      · rw [Nat.mod_eq_sub_mod (by omega), Nat.mod_eq_of_lt (by omega)]; omega
  have e2 : List.range n = List.range p ++ List.range' p (n - p) := by
    rw [List.range_eq_range', List.range_eq_range', show n = p + (n - p) by omega, ← List.range'_append_1]
    simp
  have e3 : ((List.range n).map fun i => (i + p) % n).Perm (List.range n) := by
    rw [e1]
    conv => rhs; rw [e2]
    exact List.perm_append_comm
  have e4 : ((List.range n).map fun i => n - 1 - i).Perm (List.range n) := by
    have : ((List.range n).map fun i => n - 1 - i) = (List.range n).reverse := by
      apply List.ext_getElem
      · simp
      · intro i h1 h2
        simp
    rw [this]
    exact List.reverse_perm _
  have := ((e3.map fun i => n - 1 - i).trans e4).map fun i => z.getD i 0
  simpa [List.map_map, Function.comp_def] using this

set_option maxRecDepth 100000 in
theorem medianOrder_walk (a0 : Option Addr) (len0 cap0 : Nat) (z0 : List Int) (a1 : Int) (w : World) (w0 : IsRow .i64 w a0 len0 cap0 z0) (_ : (Lit.int .i64 a1).wf = true) :
    Calls Try.prog 4 #[.slice a0 len0 cap0, .int .i64 a1] w fun e w' => e = .returned (.bool true) ∧ Below w.heap.size w w' := by
  have l0 := row_len w0
  have aw : ∀ w1 : World, w.grownBy w1 none → Calls Try.prog 10 #[] w1 fun e w' => e = .returned (.bool true) ∧ Below w.heap.size w w' := fun w1 hg => (awake_any w1).mono fun e w' ⟨he, h⟩ => ⟨he, below_of_gb (gb_trans hg h)⟩
  by_cases hlen : 1 ≤ len0 ∧ len0 ≤ 15
  · have t1 : ¬ (len0 : Int) < 1 := by omega
    have t2 : ¬ (15 : Int) < len0 := by omega
    obtain ⟨bz, oz, rfl, hlz, hbz, hRow⟩ := row_open w0 (by omega)
    clear w0
    go_enter Try.func4, Try.ntmps4
    go_wp2_with fail
    refine (new_any _ _).mono ?_
    rintro e wa ⟨rfl, hf, hg⟩
    rw [show max 1 (min (len0 : Int) 15) = len0 by omega] at hf
    go_wp2_with fail
    refine (new_any _ _).mono ?_
    rintro e wb ⟨rfl, hf2, hg2⟩
    rw [show max 1 (min (len0 : Int) 15) = len0 by omega] at hf2
    have hf1 := hf.other hg2 (by simp)
    have hlt := hf.lt
    have hgb := gb_trans hg hg2
    clear hf hg hg2
    generalize hB : wa.heap.size = B at *
    clear hB
    go_wp2_with fail
    obtain ⟨n, rfl⟩ : ∃ n, n = len0 := ⟨_, rfl⟩
    have hp0 := Int.emod_nonneg a1 (b := (n : Int)) (by omega)
    have hp1 := Int.emod_lt_of_pos a1 (b := (n : Int)) (by omega)
    obtain ⟨p, hp⟩ : ∃ p : Nat, a1 % (n : Int) = p := ⟨(a1 % n).toNat, by omega⟩
    have hpn : p < n := by omega
    go_loopw [7] (fun i wr => ∃ j : Nat, i = .int .i64 j ∧ j ≤ n ∧ FiAt wr w.heap.size ((List.range j).map fun i => z0.getD i 0) n ∧ FiAt wr B ((List.range j).map fun i => z0.getD (n - 1 - (i + p) % n) 0) n ∧ w.grownBy wr none) (fun i _ => n - (intOf i).toNat)
    case atStart => exact ⟨0, rfl, by omega, hf1, hf2, hgb⟩
    case round =>
      obtain ⟨j, rfl, hj, hF, hG, hg3⟩ := hrel
      clear hf1 hf2 hgb
      obtain ⟨wo, rfl⟩ : ∃ wo : World, wo = wr := ⟨_, rfl⟩
      by_cases hjn : j < n
      · have hjn' : (j : Int) < n := by omega
        have hzj := ((hRow.kept hg3) j (by omega)).1
        obtain ⟨z, hz⟩ : ∃ z, z0.getD j 0 = z := ⟨_, rfl⟩
        rw [hz] at hzj
        go_wp2_with fail
        refine (put_any _ _ _ _ _ hF).mono ?_
        rintro e w2 ⟨rfl, hF2, hg4⟩
        rw [put_less _ _ _ (by simp; omega)] at hF2
        generalize mid _ = mm
        have hG2 := hG.other hg4 (by simp; omega)
        have hg5 := gb_young hg3 hg4 (Nat.le_refl _)
        clear hF hG hzj hg3 hg4
        go_wp2_with fail
        refine (place_any _ _ _ (by omega) (by omega)).mono ?_
        rintro e wb ⟨rfl, rfl⟩
        rw [hp]
        obtain ⟨m, hm⟩ : ∃ m, (j + p) % n = m := ⟨_, rfl⟩
        have hmn : m < n := by rw [← hm]; exact Nat.mod_lt _ (by omega)
        have m1 : ((j : Int) + (p : Int)).tmod (n : Int) = (m : Int) := by
          rw [Int.tmod_eq_emod_of_nonneg (by omega), ← hm]
          simp
        obtain ⟨q, hq⟩ : ∃ q, n - 1 - m = q := ⟨_, rfl⟩
        have hqn : q < n := by omega
        have m2 : (n : Int) - 1 - (m : Int) = (q : Int) := by omega
        have hzq := ((hRow.kept hg5) q (by omega)).1
        obtain ⟨y, hy⟩ : ∃ y, z0.getD q 0 = y := ⟨_, rfl⟩
        rw [hy] at hzq
        go_wp2_with fail
        refine (put_any _ _ _ _ _ hG2).mono ?_
        rintro e w3 ⟨rfl, hG3, hg6⟩
        rw [put_less _ _ _ (by simp; omega)] at hG3
        generalize mid _ = mm2
        have hF3 := hF2.other hg6 (by simp; omega)
        have hg7 := gb_young hg5 hg6 (by omega)
        clear hF2 hG2 hzq hg5 hg6
        go_wp2_with fail
        refine ⟨⟨j + 1, by simp, by omega, ?_, ?_, hg7⟩, by simp [intOf]; omega⟩
        · rw [List.range_succ, List.map_append, List.map_singleton, hz]; exact hF3
        · rw [List.range_succ, List.map_append, List.map_singleton, hm, hq, hy]; exact hG3
      · obtain rfl : j = n := by omega
        have hP := mid_perm (turned_perm z0 j p hpn)
        go_wp2_with fail
        refine (median_all _ _ _ _ hF (by simp; omega)).mono ?_
        rintro e w2 ⟨rfl, hg4⟩
        have hG2 := hG.other hg4 (by simp)
        have hg5 := gb_trans hg3 hg4
        rw [← hP]
        clear hP hF hG hg3 hg4
        generalize hM : mid _ = mm
        go_wp2_with fail
        refine (median_all _ _ _ _ hG2 (by simp; omega)).mono ?_
        rintro e w3 ⟨rfl, hg6⟩
        rw [hM]
        have hg7 := gb_trans hg5 hg6
        clear hG2 hg5 hg6 hM
        go_wp2_with fail
        refine (aw _ hg7).mono ?_
        rintro e w4 ⟨rfl, hgg⟩
        go_wp2_with fail
        go_ret
        exact ⟨rfl, hgg⟩
  · go_enter Try.func4, Try.ntmps4
    rcases (by omega : len0 < 1 ∨ 15 < len0) with h | h
    · have t1 : (len0 : Int) < 1 := by omega
      go_wp2_with fail
      refine (aw _ (gb_refl _ _)).mono ?_
      rintro e w2 ⟨rfl, hg2⟩
      go_wp2_with fail
      go_ret
      exact ⟨rfl, hg2⟩
    · have t1 : (15 : Int) < len0 := by omega
      have t2 : ¬ (len0 : Int) < 1 := by omega
      go_wp2_with fail
      refine (aw _ (gb_refl _ _)).mono ?_
      rintro e w2 ⟨rfl, hg2⟩
      go_wp2_with fail
      go_ret
      exact ⟨rfl, hg2⟩
end Go.Proofs.Ytadabpkfkdbafaa
