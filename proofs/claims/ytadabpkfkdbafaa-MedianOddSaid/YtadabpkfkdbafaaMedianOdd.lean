/- The walk of MedianOdd. -/
import Derived.Test.YtadabpkfkdbafaaMed2
import Derived.Test.YtadabpkfkdbafaaSrt
namespace Go.Proofs.Ytadabpkfkdbafaa
open Go.RowKit
attribute [local go_sem] max_two min_two max2_max min2_min

def off1 (b x : Int) : Bool := !(decide (b ≤ x) && decide (x < b + 100))
theorem put_room (vals : List Int) (v : Int) (h : vals.length < 15) : put vals 15 v = vals ++ [v] := by
  unfold put
  rw [if_neg (by omega)]

set_option maxRecDepth 100000 in
theorem medianOdd_walk (a0 : Int) (a1 : Option Addr) (len1 cap1 : Nat) (z1 : List Int) (a2 : Int) (a3 : Int) (w : World) (_ : (Lit.int .i64 a0).wf = true) (w1 : IsRow .i64 w a1 len1 cap1 z1) (_ : (Lit.int .i64 a2).wf = true) (_ : (Lit.int .i64 a3).wf = true) :
    Calls Try.prog 3 #[.int .i64 a0, .slice a1 len1 cap1, .int .i64 a2, .int .i64 a3] w fun e w' => e = .returned (.bool true) ∧ Below w.heap.size w w' := by
  have l1 := row_len w1
  obtain ⟨n, hn⟩ : ∃ n : Nat, min (len1 : Int) 10 = n := ⟨min len1 10, by omega⟩
  have hn2 : n ≤ len1 ∧ n ≤ 10 := by omega
  go_enter Try.func3, Try.ntmps3
  go_wp2_with fail
  refine (new_any _ _).mono ?_
  rintro e wa ⟨rfl, hf, hg⟩
  rw [show max 1 (min (15 : Int) 15) = 15 from rfl] at hf
  go_wp2_with fail
  refine (place_any _ _ _ (by omega) (by omega)).mono ?_
  rintro e wb ⟨rfl, rfl⟩
  have hb0 := Int.emod_nonneg a0 (b := 1099511627776) (by omega)
  have hb1 := Int.emod_lt_of_pos a0 (b := 1099511627776) (by omega)
  generalize a0 % 1099511627776 = b at *
  go_wp2_with fail
  · refine (awake_any _).mono ?_
    rintro e wb ⟨rfl, hg2⟩
    have hgg := below_of_gb (gb_trans hg hg2)
    go_wp2_with fail
    go_ret
    exact ⟨rfl, hgg⟩
  rename_i h3
  have h3 : 3 ≤ n := by omega
  refine (place_any _ _ _ (by omega) (by omega)).mono ?_
  rintro e wb ⟨rfl, rfl⟩
  have hk0 := Int.emod_nonneg a3 (b := (n : Int)) (by omega)
  have hk1 := Int.emod_lt_of_pos a3 (b := (n : Int)) (by omega)
  obtain ⟨k, hk⟩ : ∃ k : Nat, a3 % (n : Int) = k := ⟨(a3 % n).toNat, by omega⟩
  rw [hk] at hk0 hk1 ⊢
  obtain ⟨bz, oz, rfl, hlz, hbz, hRow⟩ := row_open w1 (by omega)
  clear w1 hn hk hk0
  go_wp2_with fail
  go_loopw [13] (fun i wr => ∃ (j : Nat) (vals : List Int), i = .int .i64 j ∧ j ≤ n ∧ FiAt wr w.heap.size vals 15 ∧ vals.length = j + (if k < j then 1 else 0) ∧ vals.countP (off1 b) ≤ (if k < j then 1 else 0) ∧ w.grownBy wr none) (fun i _ => n - (intOf i).toNat)
  case atStart => exact ⟨0, [], rfl, by omega, hf, rfl, by simp, hg⟩
  case round =>
    obtain ⟨j, vals, rfl, hj, hF, hlen, hcnt, hg3⟩ := hrel
    clear hf hg
    have HLEN := hide hlen
    have HCNT := hide hcnt
    clear hlen hcnt
    obtain ⟨wo, rfl⟩ : ∃ wo : World, wo = wr := ⟨_, rfl⟩
    by_cases hjn : j < n
    · have hjn' : (j : Int) < n := by omega
      have hzj := ((hRow.kept hg3) j (by omega)).1
      obtain ⟨z, hz⟩ : ∃ z, z1.getD j 0 = z := ⟨_, rfl⟩
      rw [hz] at hzj
      by_cases hjk : j = k
      · subst hjk
        have t1 : ((j : Int) == (j : Int)) = true := by simp
        go_wp2_with fail
        have hlen := HLEN.out
        rw [if_neg (by omega)] at hlen
        refine (put_any _ _ _ _ _ hF).mono ?_
        rintro e w2 ⟨rfl, hF2, hg4⟩
        rw [put_room _ _ (by omega)] at hF2
        generalize mid _ = mm
        have hg5 := gb_young hg3 hg4 (Nat.le_refl _)
        have hzj := ((hRow.kept hg5) j (by omega)).1
        rw [hz] at hzj
        clear hF hg3 hg4
        go_wp2_with fail
        refine (place_any _ _ _ (by omega) (by omega)).mono ?_
        rintro e wb ⟨rfl, rfl⟩
        have hr0 := Int.emod_nonneg z (b := 100) (by omega)
        have hr1 := Int.emod_lt_of_pos z (b := 100) (by omega)
        generalize z % 100 = r at *
        go_wp2_with fail
        refine (put_any _ _ _ _ _ hF2).mono ?_
        rintro e w3 ⟨rfl, hF3, hg6⟩
        rw [put_room _ _ (by simp; omega)] at hF3
        generalize mid _ = mm
        have hg7 := gb_young hg5 hg6 (Nat.le_refl _)
        clear hF2 hg5 hg6
        go_wp2_with fail
        refine ⟨⟨j + 1, _, by simp, by omega, hF3, by simp; omega, ?_, hg7⟩, by simp [intOf]; omega⟩
        have hcnt := HCNT.out
        rw [if_neg (by omega)] at hcnt
        rw [if_pos (by omega), List.countP_append, List.countP_append]
        have : [b + r].countP (off1 b) = 0 := by simp [off1]; omega
        have : [a2].countP (off1 b) ≤ 1 := by simpa using List.countP_le_length (l := [a2]) (p := off1 b)
        omega
      · have t1 : ((j : Int) == (k : Int)) = false := by rw [beq_eq_false_iff_ne]; omega
        have hlen := HLEN.out
        have hl15 : vals.length < 15 := by split at hlen <;> omega
        go_wp2_with fail
        refine (place_any _ _ _ (by omega) (by omega)).mono ?_
        rintro e wb ⟨rfl, rfl⟩
        have hr0 := Int.emod_nonneg z (b := 100) (by omega)
        have hr1 := Int.emod_lt_of_pos z (b := 100) (by omega)
        generalize z % 100 = r at *
        go_wp2_with fail
        refine (put_any _ _ _ _ _ hF).mono ?_
        rintro e w3 ⟨rfl, hF3, hg6⟩
        rw [put_room _ _ hl15] at hF3
        generalize mid _ = mm
        have hg7 := gb_young hg3 hg6 (Nat.le_refl _)
        clear hF hg3 hg6
        go_wp2_with fail
        have hcnt := HCNT.out
        have : [b + r].countP (off1 b) = 0 := by simp [off1]; omega
        have hkj : (k < j + 1) = (k < j) := by rw [eq_iff_iff]; omega
        refine ⟨⟨j + 1, _, by simp, by omega, hF3, ?_, ?_, hg7⟩, by simp [intOf]; omega⟩
        · simp only [hkj, List.length_append, List.length_singleton]; omega
        · simp only [hkj, List.countP_append]; omega
    · have hlen := HLEN.out
      have hcnt := HCNT.out
      rw [if_pos (by omega)] at hlen hcnt
      go_wp2_with fail
      refine (median_all _ _ _ _ hF (by omega)).mono ?_
      rintro e w2 ⟨rfl, hg4⟩
      have hm := mid_odd vals b (by omega) hcnt
      have hg5 := gb_trans hg3 hg4
      generalize mid vals = m at *
      have t1 : b ≤ m := hm.1
      have t2 : m < b + 100 := hm.2
      have t3 : IntKind.i64.wrap (b + 100) = b + 100 := by rw [IntKind.wrap_i64]; omega
      clear hF hg3 hg4
      go_wp2_with fail
      refine (awake_any _).mono ?_
      rintro e w4 ⟨rfl, hg6⟩
      have hgg := below_of_gb (gb_trans hg5 hg6)
      clear hg5 hg6
      go_wp2_with fail
      go_ret
      exact ⟨rfl, hgg⟩
end Go.Proofs.Ytadabpkfkdbafaa
