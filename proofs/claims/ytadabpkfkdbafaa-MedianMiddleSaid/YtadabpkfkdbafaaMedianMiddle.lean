/- The walk of MedianMiddle. -/
import Derived.Test.YtadabpkfkdbafaaMed3
namespace Go.Proofs.Ytadabpkfkdbafaa
open Go.RowKit
attribute [local go_sem] max_two min_two max2_max min2_min

theorem countP_succ (l : List Int) (k : Nat) (p : Int → Bool) (hk : k < l.length) : (l.take (k + 1)).countP p = (l.take k).countP p + if p (l.getD k 0) then 1 else 0 := by
  rw [List.take_succ_eq_append_getElem hk, List.countP_append, List.getD_eq_getElem?_getD, List.getElem?_eq_getElem hk]
  simp [List.countP_cons]
theorem any_succ (l : List Int) (k : Nat) (p : Int → Bool) (hk : k < l.length) : (l.take (k + 1)).any p = ((l.take k).any p || p (l.getD k 0)) := by
  rw [List.take_succ_eq_append_getElem hk, List.any_append, List.getD_eq_getElem?_getD, List.getElem?_eq_getElem hk]
  simp
theorem countP_lt (l : List Int) (m : Int) : l.countP (fun x => decide (x < m)) + l.countP (fun x => decide (m ≤ x)) = l.length := by
  rw [List.length_eq_countP_add_countP (fun x => decide (x < m))]
  congr 1
  apply List.countP_congr
  intro x _
  simp
theorem countP_gt (l : List Int) (m : Int) : l.countP (fun x => decide (m < x)) + l.countP (fun x => decide (x ≤ m)) = l.length := by
  rw [List.length_eq_countP_add_countP (fun x => decide (m < x))]
  congr 1
  apply List.countP_congr
  intro x _
  simp

set_option maxHeartbeats 4000000 in
set_option maxRecDepth 100000 in
theorem medianMiddle_walk (a0 : Int) (a1 : Option Addr) (len1 cap1 : Nat) (z1 : List Int) (w : World) (_ : (Lit.int .i64 a0).wf = true) (w1 : IsRow .i64 w a1 len1 cap1 z1) :
    Calls Try.prog 5 #[.int .i64 a0, .slice a1 len1 cap1] w fun e w' => e = .returned (.bool true) ∧ Below w.heap.size w w' := by
  have l1 := row_len w1
  have aw := awake_from w
  go_enter Try.func5, Try.ntmps5
  go_wp2_with fail
  refine (new_any _ _).mono ?_
  rintro e wa ⟨rfl, hf, hg⟩
  generalize max 1 (min a0 15) = most at hf
  go_wp2_with fail
  go_loopw [6] (fun i wr => ∃ (j : Nat) (vals : List Int), i = .int .i64 j ∧ j ≤ len1 ∧ j ≤ 60 ∧ FiAt wr w.heap.size vals most ∧ w.grownBy wr none) (fun i _ => 60 - (intOf i).toNat)
  case atStart => exact ⟨0, [], rfl, by omega, by omega, hf, hg⟩
  case round =>
    obtain ⟨j, vals, rfl, hj, hj60, hF, hg3⟩ := hrel
    clear hf hg
    obtain ⟨wo, rfl⟩ : ∃ wo : World, wo = wr := ⟨_, rfl⟩
    by_cases hjn : j < len1 ∧ j < 60
    · have hjn' : (j : Int) < len1 := by omega
      have hjn2 : (j : Int) < 60 := by omega
      obtain ⟨bz, oz, rfl, hlz, hbz, hRow⟩ := row_open w1 (by omega)
      have hzj := ((hRow.kept hg3) j (by omega)).1
      obtain ⟨z, hz⟩ : ∃ z, z1.getD j 0 = z := ⟨_, rfl⟩
      rw [hz] at hzj
      go_wp2_with fail
      refine (put_any _ _ _ _ _ hF).mono ?_
      rintro e w2 ⟨rfl, hF2, hg4⟩
      have hPL := put_last vals most z
      generalize put vals most z = vs at *
      have hm1 := hide (mid_le vs hPL.1)
      have hm2 := hide (mid_ge vs hPL.1)
      have hm3 := hide (mid_mem vs hPL.1)
      generalize hM : mid vs = m at *
      have hg5 := gb_young hg3 hg4 (Nat.le_refl _)
      clear hF hg3 hg4 hM
      go_wp2_with fail
      refine (values_any _ _ _ _ hF2).mono ?_
      rintro e w3 ⟨v, rfl, hown, hg6⟩
      obtain ⟨g, cap, rfl, hgb, hgl, hcell⟩ := own_ints hown hPL.1 rfl
      have hF3 := hF2.keep hg6 (by simp)
      have hg7 := gb_trans hg5 hg6
      have HL := hide hPL
      have hlen15 : vs.length ≤ 15 := by
        have := hF3.few
        omega
      have hpos : 0 < vs.length := hPL.1
      clear hF2 hg5 hg6 hown hPL hzj
      obtain ⟨N, hN⟩ : ∃ N, N = vs.length := ⟨_, rfl⟩
      rw [← hN] at hlen15 hpos hcell ⊢
      have HC := hide hcell
      have HN := hide hN
      clear hcell hN
      go_wp2_with fail
      go_loop [9, 10, 11, 12] (fun a b c d => ∃ k : Nat, k ≤ N ∧ a = .int .i64 ((vs.take k).countP (fun x => decide (x < m)) : Nat) ∧ b = .int .i64 ((vs.take k).countP (fun x => decide (m < x)) : Nat) ∧ c = .bool ((vs.take k).any (fun x => x == m)) ∧ d = .int .i64 k) (fun a b c d => N - (intOf d).toNat)
      case atStart => exact ⟨0, by omega, rfl, rfl, rfl, rfl⟩
      case round =>
        obtain ⟨k, hk, rfl, rfl, rfl, rfl⟩ := hrel
        have hN := HN.out
        have HK := hide (And.intro (countP_succ vs k (fun x => decide (x < m))) (And.intro (countP_succ vs k (fun x => decide (m < x))) (any_succ vs k (fun x => x == m))))
        have hc1 : (vs.take k).countP (fun x => decide (x < m)) ≤ k := Nat.le_trans List.countP_le_length (by simp; omega)
        have hc2 : (vs.take k).countP (fun x => decide (m < x)) ≤ k := Nat.le_trans List.countP_le_length (by simp; omega)
        have HX := hide (show (vs.take k).countP (fun x => decide (x < m)) = (vs.take k).countP (fun x => decide (x < m)) ∧ (vs.take k).countP (fun x => decide (m < x)) = (vs.take k).countP (fun x => decide (m < x)) ∧ (vs.take k).any (fun x => x == m) = (vs.take k).any (fun x => x == m) from ⟨rfl, rfl, rfl⟩)
        by_cases hkn : k < N
        · have hkn' : (k : Int) < N := by omega
          have hck := HC.out k (by omega)
          obtain ⟨y, hy⟩ : ∃ y, vs.getD k 0 = y := ⟨_, rfl⟩
          rw [hy] at hck
          obtain ⟨c1, hc1e⟩ : ∃ c1, (vs.take k).countP (fun x => decide (x < m)) = c1 := ⟨_, rfl⟩
          obtain ⟨c2, hc2e⟩ : ∃ c2, (vs.take k).countP (fun x => decide (m < x)) = c2 := ⟨_, rfl⟩
          obtain ⟨c3, hc3e⟩ : ∃ c3, (vs.take k).any (fun x => x == m) = c3 := ⟨_, rfl⟩
          have hs := HK.out
          rw [hc1e] at hc1
          rw [hc2e] at hc2
          rw [hc1e, hc2e, hc3e, hy] at hs
          rw [hc1e, hc2e, hc3e]
          have hs1 := hide (hs.1 (by omega))
          have hs2 := hide (hs.2.1 (by omega))
          have hs3 := hide (hs.2.2 (by omega))
          clear HX HK hs hc1e hc2e hc3e hN
          rcases Int.lt_trichotomy y m with h | h | h
          · have h2 : ¬ m < y := by omega
            have h3 : (y == m) = false := by rw [beq_eq_false_iff_ne]; omega
            cases c3
            · go_wp2_with fail
              refine ⟨⟨k + 1, by omega, ?_, ?_, ?_, by simp⟩, by simp [intOf]; omega⟩
              · rw [hs1.out]; simp [h]
              · rw [hs2.out]; simp [h2]
              · rw [hs3.out]; simp [h3]
            · go_wp2_with fail
              refine ⟨⟨k + 1, by omega, ?_, ?_, ?_, by simp⟩, by simp [intOf]; omega⟩
              · rw [hs1.out]; simp [h]
              · rw [hs2.out]; simp [h2]
              · rw [hs3.out]; simp [h3]
          · subst h
            have h2 : ¬ y < y := by omega
            have h3 : (y == y) = true := by simp
            cases c3
            · go_wp2_with fail
              refine ⟨⟨k + 1, by omega, ?_, ?_, ?_, by simp⟩, by simp [intOf]; omega⟩
              · rw [hs1.out]; simp [h2]
              · rw [hs2.out]; simp [h2]
              · rw [hs3.out]; simp
            · go_wp2_with fail
              refine ⟨⟨k + 1, by omega, ?_, ?_, ?_, by simp⟩, by simp [intOf]; omega⟩
              · rw [hs1.out]; simp [h2]
              · rw [hs2.out]; simp [h2]
              · rw [hs3.out]; simp
          · have h2 : ¬ y < m := by omega
            have h3 : (y == m) = false := by rw [beq_eq_false_iff_ne]; omega
            cases c3
            · go_wp2_with fail
              refine ⟨⟨k + 1, by omega, ?_, ?_, ?_, by simp⟩, by simp [intOf]; omega⟩
              · rw [hs1.out]; simp [h2]
              · rw [hs2.out]; simp [h]
              · rw [hs3.out]; simp [h3]
            · go_wp2_with fail
              refine ⟨⟨k + 1, by omega, ?_, ?_, ?_, by simp⟩, by simp [intOf]; omega⟩
              · rw [hs1.out]; simp [h2]
              · rw [hs2.out]; simp [h]
              · rw [hs3.out]; simp [h3]
        · have e0 : vs.take k = vs := List.take_of_length_le (by omega)
          obtain rfl : k = N := by omega
          rw [e0] at *
          clear HX HK e0 hc1 hc2
          have q1 := countP_lt vs m
          have q2 := countP_gt vs m
          have q3 := hm1.out
          have q4 := hm2.out
          have q5 : (vs.any fun x => x == m) = true := by
            rw [List.any_eq_true]
            exact ⟨m, hm3.out, by simp⟩
          rw [q5]
          rw [← hN] at q1 q2 q3 q4
          generalize vs.countP (fun x => decide (x < m)) = c1 at *
          generalize vs.countP (fun x => decide (m < x)) = c2 at *
          have r1 : 2 * c1 < k + 1 := by omega
          have r2 : 2 * c2 ≤ k := by omega
          clear q1 q2 q3 q4 q5 hm1 hm2 hm3
          obtain ⟨t, ht⟩ : ∃ t : Nat, k = t + 1 := ⟨k - 1, by omega⟩
          have hlast := HC.out t (by omega)
          have hl2 := HL.out.2
          rw [← hN, show k - 1 = t by omega] at hl2
          rw [hl2] at hlast
          clear hN
          have s1 : ¬ ((k : Int) + 1 ≤ 2 * (c1 : Int)) := by omega
          have s1b : ¬ ((k : Int) < 2 * (c1 : Int)) := by omega
          have s2 : ¬ ((k : Int) < 2 * (c2 : Int)) := by omega
          have s3 : ¬ ((15 : Int) < (k : Int)) := by omega
          have s4 : (k : Int) - 1 = (t : Int) := by omega
          have s5 : (t : Int) < (k : Int) := by omega
          have hzj := ((hRow.kept hg7) j (by omega)).1
          rw [hz] at hzj
          have v1 : IntKind.i64.wrap (2 * (c1 : Int)) = 2 * (c1 : Int) := by rw [IntKind.wrap_i64]; omega
          have v2 : IntKind.i64.wrap (2 * (c2 : Int)) = 2 * (c2 : Int) := by rw [IntKind.wrap_i64]; omega
          have v3 : IntKind.i64.wrap ((k : Int) + 1) = (k : Int) + 1 := by rw [IntKind.wrap_i64]; omega
          have v4 : IntKind.i64.wrap (t : Int) = (t : Int) := by rw [IntKind.wrap_i64]; omega
          clear ht
          go_wp2_with fail
          go_quiet (fail)
          go_wp2_with fail
          exact ⟨⟨j + 1, vs, by simp, by omega, by omega, hF3, gb_drewN hg7 _⟩, by simp [intOf]; omega⟩
    · have : j = len1 ∨ j = 60 := by omega
      rcases (by omega : ¬ (j : Int) < len1 ∨ ((j : Int) < len1 ∧ ¬ (j : Int) < 60)) with h | ⟨h, h2⟩
      · go_wp2_with fail
        refine (aw _ hg3).mono ?_
        rintro e w4 ⟨rfl, hgg⟩
        go_wp2_with fail
        go_ret
        exact ⟨rfl, hgg⟩
      · go_wp2_with fail
        refine (aw _ hg3).mono ?_
        rintro e w4 ⟨rfl, hgg⟩
        go_wp2_with fail
        go_ret
        exact ⟨rfl, hgg⟩
end Go.Proofs.Ytadabpkfkdbafaa
