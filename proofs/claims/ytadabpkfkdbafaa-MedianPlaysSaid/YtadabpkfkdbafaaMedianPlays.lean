/- The walk of MedianPlays. -/
import Derived.Test.YtadabpkfkdbafaaRef
namespace Go.Proofs.Ytadabpkfkdbafaa
open Go.RowKit
attribute [local go_sem] max_two min_two max2_max min2_min

theorem RefAt.none_ {w : World} {b : Nat} {n : Int} {vals : List Int} (h : RefAt w b n vals) : RefAt (w.setCell ⟨b, 1, none⟩ (.slice none 0 0)) b n [] := by
  obtain ⟨v, hb, hv⟩ := h
  exact ⟨_, Blk.set hb 1 _, .inl ⟨rfl, rfl⟩⟩
theorem RefAt.free {w : World} {b : Nat} {n : Int} {vals : List Int} (h : RefAt w b n vals) : w.frozen? ⟨b, 1, none⟩ = false ∧ ∃ v, w.cell? ⟨b, 1, none⟩ = some v := by
  obtain ⟨v, hb, hv⟩ := h
  exact ⟨Blk.free hb 1, v, Blk.cell hb 1⟩

theorem RefAt.ne {w : World} {b : Nat} {n : Int} {vals : List Int} (h : RefAt w b n vals) (hp : 0 < vals.length) :
    ∃ g o cap, w.cell? ⟨b, 1, none⟩ = some (.slice (some ⟨g, o, none⟩) vals.length cap) ∧ g < w.heap.size ∧ ∀ i, i < vals.length → w.cell? ⟨g, o + i, none⟩ = some (.int .i64 (vals.getD i 0)) := by
  obtain ⟨v, hb, hv⟩ := h
  rcases hv with ⟨_, rfl⟩ | ⟨g, o, cap, rfl, h1, h2, h3, h4, hc⟩
  · simp at hp
  · exact ⟨g, o, cap, Blk.cell hb 1, h2, hc⟩
theorem put_few (vals : List Int) (most v : Int) (h : (vals.length : Int) ≤ most) (h1 : 1 ≤ most) : ((put vals most v).length : Int) ≤ most := by
  unfold put
  split <;> simp <;> omega

set_option maxHeartbeats 4000000 in
set_option maxRecDepth 100000 in
theorem medianPlays_walk (a0 : Int) (a1 : Option Addr) (len1 cap1 : Nat) (z1 : List Int) (a2 : Int) (w : World) (_ : (Lit.int .i64 a0).wf = true) (w1 : IsRow .i64 w a1 len1 cap1 z1) (_ : (Lit.int .i64 a2).wf = true) :
    Calls Try.prog 7 #[.int .i64 a0, .slice a1 len1 cap1, .int .i64 a2] w fun e w' => e = .returned (.bool true) ∧ Below w.heap.size w w' := by
  have l1 := row_len w1
  have aw := awake_from w
  go_enter Try.func7, Try.ntmps7
  go_wp2_with fail
  refine (new_any _ _).mono ?_
  rintro e wa ⟨rfl, hf, hg⟩
  go_wp2_with fail
  refine (refNew_any _ _).mono ?_
  rintro e wb ⟨rfl, hr, hg2⟩
  have hf2 := hf.keep hg2 (by simp)
  have hlt := hf.size
  have hgb := gb_trans hg hg2
  have hmost : 1 ≤ max 1 (min a0 15) ∧ max 1 (min a0 15) ≤ 15 := by omega
  generalize max 1 (min a0 15) = most at *
  clear hf hg hg2
  generalize hB : wa.heap.size = b at *
  clear hB
  go_wp2_with fail
  go_loopw [9] (fun i wr => ∃ (j : Nat) (vals : List Int), i = .int .i64 j ∧ j ≤ len1 ∧ j ≤ 100 ∧ FiAt wr w.heap.size vals most ∧ RefAt wr b most vals ∧ w.grownBy wr none) (fun i _ => 100 - (intOf i).toNat)
  case atStart => exact ⟨0, [], rfl, by omega, by omega, hf2, hr, hgb⟩
  case round =>
    obtain ⟨j, vals, rfl, hj, hj100, hF, hR, hg3⟩ := hrel
    clear hf2 hr hgb
    obtain ⟨wo, rfl⟩ : ∃ wo : World, wo = wr := ⟨_, rfl⟩
    by_cases hjn : j < len1 ∧ j < 100
    · have hjn' : (j : Int) < len1 := by omega
      have hjn2 : (j : Int) < 100 := by omega
      obtain ⟨bz, oz, rfl, hlz, hbz, hRow⟩ := row_open w1 (by omega)
      by_cases hcl : (j : Int) = a2
      · have t1 : ((j : Int) == a2) = true := by rw [beq_iff_eq]; exact hcl
        clear hcl
        go_wp2_with fail
        refine (clear_any _ _ _ _ hF).mono ?_
        rintro e w3 ⟨rfl, hF2, hg4⟩
        have hR2 := hR.keep hg4 (fun r e => by injection e; omega)
        have hg5 := gb_young hg3 hg4 (Nat.le_refl _)
        obtain ⟨hfr, v0, hv0⟩ := hR2.free
        have hR3 := hR2.none_
        have hgs := gb_set (gb_refl w3 (some b)) 1 (.slice none 0 0)
        have hF3 := hF2.keep hgs (by simp; omega)
        have hg6 := gb_young hg5 hgs (by omega)
        clear hF hR hg3 hF2 hg4 hR2 hg5 hgs t1
        go_wp2_with fail
        clear hfr hv0
        generalize w3.setCell ⟨b, 1, none⟩ (.slice none 0 0) = wc at *
        obtain ⟨vs, hvs⟩ : ∃ vs : List Int, vs = [] := ⟨_, rfl⟩
        rw [← hvs] at hF3 hR3
        clear hvs vals v0 w3
        have hF := hF3
        have hR := hR3
        have hg3 := hg6
        clear hF3 hR3 hg6
        obtain ⟨z, hz⟩ : ∃ z, z1.getD j 0 = z := ⟨_, rfl⟩
        have HRow := hide hRow
        have HZ := hide hz
        have hFd : FiAt wc.drew w.heap.size vs most := hF
        have hRd : RefAt wc.drew b most vs := hR
        have hgd : w.grownBy wc.drew none := gb_drew hg3
        have hz0 := ((HRow.out.kept hgd) j (by omega)).1
        rw [hz] at hz0
        have hz1 : wc.cell? ⟨bz, oz + j, none⟩ = some (.int .i64 z) := hz0
        have hm1 := hmost.1
        have hm2 := hmost.2
        have hm3 : ((vs).length : Int) ≤ most := hFd.few.2.1
        obtain ⟨m, hm⟩ : ∃ m, mid (put vs most z) = m := ⟨_, rfl⟩
        have HM := hide hm
        have hpl := (put_last vs most z).1
        have hp15 : (put vs most z).length ≤ 15 := by have := hmost; have := put_few vs most z hm3 (by omega); omega
        obtain ⟨N, hN⟩ : ∃ N, (put vs most z).length = N := ⟨_, rfl⟩
        have HN := hide hN
        have hNp : 0 < N := by omega
        have hN15 : N ≤ 1000 := by omega
        clear hz hm hN hRow hF hR hg3
        go_region_with (first
        | (go_at_call 11; refine (put_any _ _ _ _ _ hFd).mono ?_; rintro e w3 ⟨rfl, hF2, hg4⟩; rw [HM.out]; have hR2 := hRd.keep hg4 (fun r e => by injection e; omega); have hg5 := gb_young hgd hg4 (Nat.le_refl _); have hz2 := ((HRow.out.kept hg5) j (by omega)).1; rw [HZ.out] at hz2; clear hFd hRd hgd hg4)
        | (go_at_call 17; refine (refPut_any _ _ _ _ _ hR2 hm1 hm2 hm3).mono ?_; rintro e w4 ⟨rfl, hR3, hg6⟩; rw [HM.out]; have hF3 := hF2.keep hg6 (by simp; omega); have hg7 := gb_young hg5 hg6 (by omega); obtain ⟨g, o, cap, hcb, hgl, hcl⟩ := hR3.ne hpl; rw [HN.out] at hcb; have HCL := hide hcl; have HR3 := hide hR3; clear hF2 hR2 hg5 hg6 hz2 hcl hR3)
        | (go_at_call 13; refine (values_any _ _ _ _ hF3).mono ?_; rintro e w5 ⟨v, rfl, hown, hg8⟩; rw [HN.out] at hown; obtain ⟨g2, cap2, rfl, hgb2, hgl2, hcell2⟩ := own_ints hown hNp HN.out; have HC2 := hide hcell2; have hF4 := hF3.keep hg8 (by simp); have hR4 := HR3.out.keep hg8 (fun r e => by cases e); have hg9 := gb_trans hg7 hg8; have hcb5 := hg8.cell hcb (by simp); have HCL5 := hide (fun i hi => hg8.cell (HCL.out i hi) (by simp)); clear hcell2 hF3 hg7 hg8 hown hcb)
        | (go_at_call 14; refine (same_ints _ 0 _ _ _ _ _ (put vs most z) _ hN15 (fun m hm => by rw [Nat.zero_add]; exact HC2.out m hm) (fun m hm => HCL5.out m (by rw [HN.out]; exact hm))).mono ?_; rintro e w6 ⟨rfl, hg10⟩; have hF5 := hF4.keep hg10 (by simp); have hR5 := hR4.keep hg10 (fun r e => by cases e); have hg11 := gb_trans hg9 hg10; clear hF4 hR4 hg9 hg10))
        all_goals
          go_wp2_with fail
          exact ⟨⟨j + 1, put vs most z, by simp, by omega, by omega, hF5, hR5, hg11⟩, by simp [intOf]; omega⟩
      · have t1 : ((j : Int) == a2) = false := by rw [beq_eq_false_iff_ne]; exact hcl
        go_wp2_with fail
        clear t1
        obtain ⟨z, hz⟩ : ∃ z, z1.getD j 0 = z := ⟨_, rfl⟩
        have HRow := hide hRow
        have HZ := hide hz
        have hFd : FiAt wo.drew w.heap.size vals most := hF
        have hRd : RefAt wo.drew b most vals := hR
        have hgd : w.grownBy wo.drew none := gb_drew hg3
        have hz0 := ((HRow.out.kept hgd) j (by omega)).1
        rw [hz] at hz0
        have hz1 : wo.cell? ⟨bz, oz + j, none⟩ = some (.int .i64 z) := hz0
        have hm1 := hmost.1
        have hm2 := hmost.2
        have hm3 : ((vals).length : Int) ≤ most := hFd.few.2.1
        obtain ⟨m, hm⟩ : ∃ m, mid (put vals most z) = m := ⟨_, rfl⟩
        have HM := hide hm
        have hpl := (put_last vals most z).1
        have hp15 : (put vals most z).length ≤ 15 := by have := hmost; have := put_few vals most z hm3 (by omega); omega
        obtain ⟨N, hN⟩ : ∃ N, (put vals most z).length = N := ⟨_, rfl⟩
        have HN := hide hN
        have hNp : 0 < N := by omega
        have hN15 : N ≤ 1000 := by omega
        clear hz hm hN hRow hF hR hg3
        go_region_with (first
        | (go_at_call 11; refine (put_any _ _ _ _ _ hFd).mono ?_; rintro e w3 ⟨rfl, hF2, hg4⟩; rw [HM.out]; have hR2 := hRd.keep hg4 (fun r e => by injection e; omega); have hg5 := gb_young hgd hg4 (Nat.le_refl _); have hz2 := ((HRow.out.kept hg5) j (by omega)).1; rw [HZ.out] at hz2; clear hFd hRd hgd hg4)
        | (go_at_call 17; refine (refPut_any _ _ _ _ _ hR2 hm1 hm2 hm3).mono ?_; rintro e w4 ⟨rfl, hR3, hg6⟩; rw [HM.out]; have hF3 := hF2.keep hg6 (by simp; omega); have hg7 := gb_young hg5 hg6 (by omega); obtain ⟨g, o, cap, hcb, hgl, hcl⟩ := hR3.ne hpl; rw [HN.out] at hcb; have HCL := hide hcl; have HR3 := hide hR3; clear hF2 hR2 hg5 hg6 hz2 hcl hR3)
        | (go_at_call 13; refine (values_any _ _ _ _ hF3).mono ?_; rintro e w5 ⟨v, rfl, hown, hg8⟩; rw [HN.out] at hown; obtain ⟨g2, cap2, rfl, hgb2, hgl2, hcell2⟩ := own_ints hown hNp HN.out; have HC2 := hide hcell2; have hF4 := hF3.keep hg8 (by simp); have hR4 := HR3.out.keep hg8 (fun r e => by cases e); have hg9 := gb_trans hg7 hg8; have hcb5 := hg8.cell hcb (by simp); have HCL5 := hide (fun i hi => hg8.cell (HCL.out i hi) (by simp)); clear hcell2 hF3 hg7 hg8 hown hcb)
        | (go_at_call 14; refine (same_ints _ 0 _ _ _ _ _ (put vals most z) _ hN15 (fun m hm => by rw [Nat.zero_add]; exact HC2.out m hm) (fun m hm => HCL5.out m (by rw [HN.out]; exact hm))).mono ?_; rintro e w6 ⟨rfl, hg10⟩; have hF5 := hF4.keep hg10 (by simp); have hR5 := hR4.keep hg10 (fun r e => by cases e); have hg11 := gb_trans hg9 hg10; clear hF4 hR4 hg9 hg10))
        all_goals
          go_wp2_with fail
          exact ⟨⟨j + 1, put vals most z, by simp, by omega, by omega, hF5, hR5, hg11⟩, by simp [intOf]; omega⟩
    · have aw2 := aw _ hg3
      have hm3 : (vals.length : Int) ≤ 15 := by have := hF.few; omega
      cases vals with
      | nil =>
        by_cases hlt1 : (j : Int) < len1
        all_goals
          go_wp2_with fail
          refine (median_none _ _ _ hF).mono ?_
          rintro e w3 ⟨rfl, rfl⟩
          go_wp2_with fail
          refine (refMedian_any _ _ _ _ hR (by simp)).mono ?_
          rw [if_pos rfl, show decide (([] : List Int) ≠ []) = false from by simp]
          rintro e w4 ⟨rfl, hg4⟩
          have aw3 := aw _ (gb_trans hg3 hg4)
          go_wp2_with fail
          refine aw3.mono ?_
          rintro e w5 ⟨rfl, hbel⟩
          go_wp2_with fail
          go_ret
          exact ⟨rfl, hbel⟩
      | cons y ys =>
        obtain ⟨vals, hv⟩ : ∃ vals, y :: ys = vals := ⟨_, rfl⟩
        have hvne : vals ≠ [] := by rw [← hv]; simp
        have hvl : 0 < vals.length := by rw [← hv]; simp
        rw [hv] at hF hR hm3
        clear hv
        obtain ⟨md, hmd⟩ : ∃ md, mid vals = md := ⟨_, rfl⟩
        have HMD := hide hmd
        have HNE := hide hvne
        clear hmd hvne
        by_cases hlt1 : (j : Int) < len1
        all_goals
          go_wp2_with fail
          refine (median_all _ _ _ _ hF hvl).mono ?_
          rw [HMD.out]
          rintro e w3 ⟨rfl, hg4⟩
          have hR2 := hR.keep hg4 (fun r e => by cases e)
          have hg5 := gb_trans hg3 hg4
          go_wp2_with fail
          refine (refMedian_any _ _ _ _ hR2 (by omega)).mono ?_
          rw [if_neg HNE.out, show decide (vals ≠ []) = true from by simpa using HNE.out, HMD.out]
          rintro e w4 ⟨rfl, hg6⟩
          have aw3 := aw _ (gb_trans hg5 hg6)
          go_wp2_with fail
          refine aw3.mono ?_
          rintro e w5 ⟨rfl, hbel⟩
          go_wp2_with fail
          go_ret
          exact ⟨rfl, hbel⟩
end Go.Proofs.Ytadabpkfkdbafaa
