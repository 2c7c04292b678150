/- The walk of MedianLast. -/
import Derived.Test.YtadabpkfkdbafaaMed4
namespace Go.Proofs.Ytadabpkfkdbafaa
open Go.RowKit
attribute [local go_sem] max_two min_two max2_max min2_min

set_option maxHeartbeats 4000000 in
set_option maxRecDepth 100000 in
theorem medianLast_walk (a0 : Int) (a1 : Option Addr) (len1 cap1 : Nat) (z1 : List Int) (a2 : Option Addr) (len2 cap2 : Nat) (z2 : List Int) (w : World) (_ : (Lit.int .i64 a0).wf = true) (w1 : IsRow .i64 w a1 len1 cap1 z1) (w2 : IsRow .i64 w a2 len2 cap2 z2) :
    Calls Try.prog 6 #[.int .i64 a0, .slice a1 len1 cap1, .slice a2 len2 cap2] w fun e w' => e = .returned (.bool true) ∧ Below w.heap.size w w' := by
  have l1 := row_len w1
  have l2 := row_len w2
  have aw := awake_from w
  have hcap2 : len2 ≤ cap2 := by
    rcases w2 with ⟨_, h1, h2, _⟩ | ⟨x, _, h, _⟩ <;> omega
  go_enter Try.func6, Try.ntmps6
  go_wp2_with fail
  refine (place_any _ _ _ (by omega) (by omega)).mono ?_
  rintro e wb ⟨rfl, rfl⟩
  have hk0 := Int.emod_nonneg a0 (b := 15) (by omega)
  have hk1 := Int.emod_lt_of_pos a0 (b := 15) (by omega)
  obtain ⟨k, hk⟩ : ∃ k : Nat, 1 + a0 % 15 = k := ⟨(1 + a0 % 15).toNat, by omega⟩
  have hkk : 1 ≤ k ∧ k ≤ 15 := by omega
  rw [show a0 % 15 = (k : Int) - 1 by omega]
  have hk2 : (1 : Int) + ((k : Int) - 1) = k := by omega
  clear hk hk0 hk1
  go_wp2_with fail
  refine (new_any _ _).mono ?_
  rintro e wa ⟨rfl, hf, hg⟩
  rw [show max 1 (min (k : Int) 15) = k by omega] at hf
  go_wp2_with fail
  refine (new_any _ _).mono ?_
  rintro e wc ⟨rfl, hf2, hg2⟩
  rw [show max 1 (min (k : Int) 15) = k by omega] at hf2
  have hf1 := hf.keep hg2 (by simp)
  have hlt := hf.size
  have hgb := gb_trans hg hg2
  clear hf hg hg2
  generalize hB : wa.heap.size = B at *
  clear hB
  by_cases hcond : len1 ≤ 40 ∧ k ≤ len2 ∧ len2 ≤ 40
  · have t1 : ¬ (40 : Int) < len1 := by omega
    have t2 : ¬ (len2 : Int) < k := by omega
    have t3 : ¬ (40 : Int) < len2 := by omega
    have d1 : decide ((40 : Int) < len1) = false := by simpa using t1
    have d2 : decide (len2 < k) = false := by simp; omega
    have d3 : decide ((40 : Int) < len2) = false := by simpa using t3
    go_wp2_with fail
    go_loopw [10] (fun i wr => ∃ j : Nat, i = .int .i64 j ∧ j ≤ len1 ∧ FiAt wr w.heap.size (lastk k (z1.take j)) k ∧ FiAt wr B [] k ∧ w.grownBy wr none) (fun i _ => len1 - (intOf i).toNat)
    case atStart => exact ⟨0, rfl, by omega, (by rw [List.take_zero]; unfold lastk; rw [List.drop_nil]; exact hf1), hf2, hgb⟩
    case round =>
      obtain ⟨j, rfl, hj, hF, hG, hg3⟩ := hrel
      clear hf1 hf2 hgb
      obtain ⟨wo, rfl⟩ : ∃ wo : World, wo = wr := ⟨_, rfl⟩
      by_cases hjn : j < len1
      · have hjn' : (j : Int) < len1 := by omega
        obtain ⟨bz, oz, rfl, hlz, hbz, hRow⟩ := row_open w1 (by omega)
        have hzj := ((hRow.kept hg3) j (by omega)).1
        have htk := hide (take_getD z1 j (by omega))
        obtain ⟨z, hz⟩ : ∃ z, z1.getD j 0 = z := ⟨_, rfl⟩
        rw [hz] at hzj htk
        go_wp2_with fail
        refine (put_any _ _ _ _ _ hF).mono ?_
        rintro e w3 ⟨rfl, hF2, hg4⟩
        rw [put_lastk _ _ _ hkk.1, ← htk.out] at hF2
        generalize mid _ = mm
        have hG2 := hG.keep hg4 (by simp; omega)
        have hg5 := gb_young hg3 hg4 (Nat.le_refl _)
        clear hF hG hzj hg3 hg4
        go_wp2_with fail
        exact ⟨⟨j + 1, by simp, by omega, hF2, hG2, hg5⟩, by simp [intOf]; omega⟩
      · obtain rfl : j = len1 := by omega
        obtain ⟨bz, oz, rfl, hlz, hbz, hRow⟩ := row_open w2 (by omega)
        go_wp2_with fail
        obtain ⟨A, hA⟩ : ∃ A, z1.take j = A := ⟨_, rfl⟩
        rw [hA] at hF
        go_loopw [11, 12, 13] (fun x y i wr => ∃ j : Nat, i = .int .i64 j ∧ j ≤ len2 ∧ x = .int .i64 (if j = 0 then 0 else mid (lastk k (A ++ z2.take j))) ∧ y = .int .i64 (if j = 0 then 0 else mid (lastk k (z2.take j))) ∧ FiAt wr w.heap.size (lastk k (A ++ z2.take j)) k ∧ FiAt wr B (lastk k (z2.take j)) k ∧ w.grownBy wr none) (fun x y i _ => len2 - (intOf i).toNat)
        case atStart => exact ⟨0, rfl, by omega, rfl, rfl, by simpa using hF, (by rw [List.take_zero]; unfold lastk; rw [List.drop_nil]; exact hG), hg3⟩
        case round =>
          obtain ⟨i, rfl, hi, rfl, rfl, hF2, hG2, hg4⟩ := hrel
          clear hF hG hg3
          obtain ⟨wp, rfl⟩ : ∃ wo : World, wo = wr := ⟨_, rfl⟩
          generalize hxx : (if i = 0 then 0 else mid (lastk k (A ++ z2.take i))) = xx
          generalize hyy : (if i = 0 then 0 else mid (lastk k (z2.take i))) = yy
          have HXY := hide (And.intro hxx hyy)
          clear hxx hyy
          by_cases hin : i < len2
          · have hin' : (i : Int) < len2 := by omega
            have hzj := ((hRow.kept hg4) i (by omega)).1
            have htk := hide (take_getD z2 i (by omega))
            obtain ⟨z, hz⟩ : ∃ z, z2.getD i 0 = z := ⟨_, rfl⟩
            rw [hz] at hzj htk
            go_wp2_with fail
            refine (put_any _ _ _ _ _ hF2).mono ?_
            rintro e w3 ⟨rfl, hF3, hg5⟩
            rw [put_lastk _ _ _ hkk.1, List.append_assoc, ← htk.out] at hF3
            have he1 := hide (show mid (put (lastk k (A ++ z2.take i)) k z) = mid (lastk k (A ++ z2.take (i + 1))) by rw [put_lastk _ _ _ hkk.1, List.append_assoc, ← htk.out])
            generalize mid (put (lastk k (A ++ z2.take i)) k z) = m1 at *
            have hG3 := hG2.keep hg5 (by simp; omega)
            have hg6 := gb_young hg4 hg5 (Nat.le_refl _)
            have hzj := ((hRow.kept hg6) i (by omega)).1
            rw [hz] at hzj
            clear hF2 hG2 hg4 hg5
            go_wp2_with fail
            refine (put_any _ _ _ _ _ hG3).mono ?_
            rintro e w4 ⟨rfl, hG4, hg7⟩
            rw [put_lastk _ _ _ hkk.1, ← htk.out] at hG4
            have he2 := hide (show mid (put (lastk k (z2.take i)) k z) = mid (lastk k (z2.take (i + 1))) by rw [put_lastk _ _ _ hkk.1, ← htk.out])
            generalize mid (put (lastk k (z2.take i)) k z) = m2 at *
            have hF4 := hF3.keep hg7 (by simp; omega)
            have hg8 := gb_young hg6 hg7 (by omega)
            clear hF3 hG3 hzj hg6 hg7
            go_wp2_with fail
            exact ⟨⟨i + 1, by simp, by omega, by rw [if_neg (by omega), he1.out], by rw [if_neg (by omega), he2.out], hF4, hG4, hg8⟩, by simp [intOf]; omega⟩
          · obtain rfl : i = len2 := by omega
            have hlt2 : (z2.take i).length = i := by simp; omega
            have hxy : xx = yy := by
              rw [← HXY.out.1, ← HXY.out.2, if_neg (by omega), if_neg (by omega), lastk_append _ _ _ (by omega)]
            rw [lastk_append _ _ _ (by omega)] at hF2
            subst hxy
            have hlk : (lastk k (z2.take i)).length = k := by unfold lastk; simp; omega
            have hcell2 : ∀ m, m < k → (lastk k (z2.take i)).getD m 0 = z2.getD (i - k + m) 0 := fun m hm => by
              unfold lastk
              rw [List.getD_eq_getElem?_getD, List.getElem?_drop, hlt2, List.getElem?_take, if_pos (by omega), List.getD_eq_getElem?_getD]
            have HC2 := hide hcell2
            clear hcell2 hG2
            generalize lastk k (z2.take i) = V at *
            obtain ⟨q, hq⟩ : ∃ q, i - k = q := ⟨_, rfl⟩
            have hq1 : (i : Int) - (k : Int) = (q : Int) := by omega
            have hq2 : i - q = k := by omega
            have hq3 : (q : Int) ≤ (i : Int) := by omega
            have hq4 : (0 : Int) ≤ (q : Int) := by omega
            have hq5 : q ≤ i := by omega
            have HR := hide (hRow.kept hg4)
            have HC3 : Hid (∀ m, m < k → V.getD m 0 = z2.getD (q + m) 0) := hide (fun m hm => by rw [← hq]; exact HC2.out m hm)
            have HQ := hide hq
            have hq6 : ¬ cap2 = q := by omega
            have hq7 : IntKind.i64.wrap (q : Int) = (q : Int) := by rw [IntKind.wrap_i64]; omega
            have hF2d : FiAt wp.drew w.heap.size V k := hF2
            have hgd := gb_drew hg4
            clear hq
            go_wp2_with fail
            go_region_held3 (fun _ => True) (trivial) (first | (go_at_call 13; refine (values_any _ _ _ _ hF2d).mono ?_; rintro e w3 ⟨v, rfl, hown, hg6⟩; rw [hlk] at hown; obtain ⟨g, cap, rfl, hgb, hgl, hcell⟩ := own_ints hown (by omega) hlk; have HC := hide hcell; clear hcell) | (go_at_call 14; refine (same_ints _ 0 _ _ _ _ _ V _ (by omega) (fun m hm => by rw [Nat.zero_add]; exact HC.out m hm) (fun m hm => by rw [HC3.out m hm]; have := (((HR.out.kept (w' := wp.drew) (gb_drew (gb_refl _ _))).kept hg6) (q + m) (by omega)).1; rw [← Nat.add_assoc] at this; exact this)).mono ?_; rintro e w4 ⟨rfl, hg7⟩) | (go_at_call 10; refine (aw _ (gb_trans (gb_trans hgd hg6) hg7)).mono ?_; rintro e w5 ⟨rfl, hgg⟩))
            go_wp2_with fail
            go_ret
            exact ⟨rfl, hgg⟩
  · go_wp2_with fail
    all_goals
      refine (aw _ hgb).mono ?_
      rintro e w4 ⟨rfl, hgg⟩
      go_wp2_with fail
      go_ret
      exact ⟨rfl, hgg⟩
end Go.Proofs.Ytadabpkfkdbafaa
