/- The walk of PairSames. -/
import Derived.Test.YtppfmnbedihfcaaMn
import Derived.ChangeOld
import Derived.Below
import Derived.Laws.OwnMore
namespace Go.Proofs.Ytppfmnbedihfcaa
open Go.RowKit

theorem Try.info27 : (Try.prog.info? 27).map (fun i => (i.zero, i.size, i.bytes)) = some (some (.complex .f64 0 0), 1, 16) := by kernel_rfl
theorem sum_rep (x : Int × Int) : ∀ n : Nat, sumA (List.replicate n x) = n * x.1 ∧ sumB (List.replicate n x) = n * x.2
  | 0 => by simp [sumA, sumB]
  | n + 1 => by
    have := sum_rep x n
    simp only [sumA, sumB, List.replicate_succ, List.map_cons, List.sum_cons] at this ⊢
    push_cast
    rw [Int.add_mul, Int.add_mul, Int.one_mul, Int.one_mul]
    omega
theorem half_between (a c : Int) : min a c ≤ (a + c) / 2 ∧ (a + c) / 2 ≤ max a c := by omega

set_option maxHeartbeats 4000000 in
set_option maxRecDepth 100000 in
theorem pairSames_walk (a0 : Int) (a1 : Int) (a2 : Int) (a3 : Int) (a4 : Int) (_ : (Lit.int .i64 a0).wf = true) (_ : (Lit.int .i64 a1).wf = true) (_ : (Lit.int .i64 a2).wf = true) (_ : (Lit.int .i64 a3).wf = true) (_ : (Lit.int .i64 a4).wf = true) (w : World) :
    Calls Try.prog 7 #[.int .i64 a0, .int .i64 a1, .int .i64 a2, .int .i64 a3, .int .i64 a4] w fun e w' => e = .returned (.bool true) ∧ Below w.heap.size w w' := by
  have nr : ∀ v : Int, -1000000 ≤ v % 2000001 - 1000000 ∧ v % 2000001 - 1000000 ≤ 1000000 := fun v => by omega
  obtain ⟨x0, x1⟩ := nr a0
  obtain ⟨y0, y1⟩ := nr a1
  obtain ⟨z0, z1⟩ := nr a2
  obtain ⟨v0, v1⟩ := nr a3
  have k0 := Int.emod_nonneg a4 (b := 30) (by omega)
  have k1 := Int.emod_lt_of_pos a4 (b := 30) (by omega)
  clear nr
  go_enter Try.func7, Try.ntmps7
  go_wp2_with fail
  refine (p_any _ _).mono ?_
  rintro e w' ⟨rfl, rfl⟩
  generalize a0 % 2000001 - 1000000 = a at *
  go_wp2_with fail
  refine (p_any _ _).mono ?_
  rintro e w' ⟨rfl, rfl⟩
  generalize a1 % 2000001 - 1000000 = b at *
  have ha : InB a := ⟨by omega, by omega⟩
  have hb : InB b := ⟨by omega, by omega⟩
  go_wp2_with fail
  refine (Of_in a b _ ha hb).mono ?_
  rintro e w' ⟨rfl, rfl⟩
  go_wp2_with fail
  refine (p_any _ _).mono ?_
  rintro e w' ⟨rfl, rfl⟩
  generalize a2 % 2000001 - 1000000 = c at *
  go_wp2_with fail
  refine (p_any _ _).mono ?_
  rintro e w' ⟨rfl, rfl⟩
  generalize a3 % 2000001 - 1000000 = d at *
  have hc : InB c := ⟨by omega, by omega⟩
  have hd : InB d := ⟨by omega, by omega⟩
  go_wp2_with fail
  refine (Of_in c d _ hc hd).mono ?_
  rintro e w' ⟨rfl, rfl⟩
  obtain ⟨k, hk⟩ : ∃ k : Nat, a4 % 30 = k := ⟨(a4 % 30).toNat, by omega⟩
  have hk30 : k < 30 := by omega
  have HK := hide hk
  clear hk k0 k1
  obtain ⟨iI, hk1, hk2, hk3, hk4⟩ := info_parts Try.info27
  have II := hide (And.intro hk1 (And.intro hk2 (And.intro hk3 hk4)))
  clear hk1 hk2 hk3 hk4
  go_wp2_with fail
  go_loopw [16, 17] (fun l i wr => ∃ j : Nat, i = .int .i64 j ∧ j ≤ k + 1 ∧ wr.ownsRow w.heap.size 27 1 l j (List.replicate j (.complex .f64 (fl a) (fl b))) ∧ w.grownBy wr none) (fun l i _ => k + 1 - (intOf i).toNat)
  case atStart => exact ⟨0, rfl, by omega, ⟨rfl, .inl ⟨rfl, rfl⟩⟩, gb_refl _ _⟩
  case round =>
    obtain ⟨j, rfl, hj, hO, hg⟩ := hrel
    obtain ⟨wo, rfl⟩ : ∃ wo : World, wo = wr := ⟨_, rfl⟩
    obtain ⟨la, lc, rfl⟩ := own_slice hO
    by_cases hjk : j ≤ k
    · have hjk' : (j : Int) ≤ (k : Int) := by omega
      go_wp2_with fail
      refine (place_any _ _ _ (by omega) (by omega)).mono ?_
      rintro e w' ⟨rfl, rfl⟩
      rw [HK.out]
      go_wp2_with (at_builtin; refine wpList_append_own _ rfl (.tmp 51) (.tmp 53) 37 rfl w.heap.size 27 iI (.complex .f64 0 0) 1 16 Try.underlying37 II.out.1 II.out.2.1 II.out.2.2.1 II.out.2.2.2 rfl (by decide) _ j (List.replicate j (.complex .f64 (fl a) (fl b))) rfl (hO.alloc _) ⟨wo.heap.size, 0, none⟩ 1 1 [.complex .f64 (fl a) (fl b)] rfl rfl ?d1 ?d2 ?d3 ?d4 ?d5 ?_)
      case d1 =>
        intro j u hj
        match j, hj with
        | 0, hj => simp at hj; subst hj; simp [Addr.add]
      case d2 => intro u hu; simp at hu; subst hu; rfl
      case d3 => unfold maxLen; omega
      case d4 => omega
      case d5 => have := hg.size; simp; omega
      intro v7 w7 hO7 hg7 _
      have hg8 := gb_young_own (gb_alloc hg _) hg7 (hO.alloc _) (Nat.le_refl _)
      rw [← List.replicate_succ'] at hO7
      go_wp2_with fail
      exact ⟨⟨j + 1, by simp, by omega, hO7, hg8⟩, by simp [intOf]; omega⟩
    · obtain rfl : j = k + 1 := by omega
      obtain ⟨g, rfl⟩ := own_addr hO (by omega)
      go_wp2_with fail
      refine (place_any _ _ _ (by omega) (by omega)).mono ?_
      rintro e w' ⟨rfl, rfl⟩
      rw [HK.out]
      have hM := Mean_any g lc (List.replicate (k + 1) (a, b)) wo (by simp) (by simp; omega) (fun x hx => by rw [List.eq_of_mem_replicate hx]; exact ⟨⟨x0, x1⟩, ⟨y0, y1⟩⟩) (fun i x hx => by
        have hi : i < k + 1 := by
          rcases Nat.lt_or_ge i (k + 1) with h | h
          · exact h
          · rw [List.getElem?_eq_none (by simpa using h)] at hx; cases hx
        rw [List.getElem?_replicate, if_pos hi] at hx
        cases hx
        rw [hO.cellAt i (by omega), List.getElem?_replicate, if_pos hi])
      rw [List.length_replicate, (sum_rep (a, b) (k + 1)).1, (sum_rep (a, b) (k + 1)).2, Int.mul_ediv_cancel_left _ (by omega), Int.mul_ediv_cancel_left _ (by omega)] at hM
      have hM := hide hM
      have hg0 := gb_alloc hg (.cells #[.complex .f64 (fl a) (fl b), .complex .f64 (fl c) (fl d)] 27)
      have hblk : Blk (wo.alloc (.cells #[.complex .f64 (fl a) (fl b), .complex .f64 (fl c) (fl d)] 27)) wo.heap.size 27 #[.complex .f64 (fl a) (fl b), .complex .f64 (fl c) (fl d)] := Blk.new _ _ _
      have hM2 := Mean_any wo.heap.size 2 [(a, b), (c, d)] (wo.alloc (.cells #[.complex .f64 (fl a) (fl b), .complex .f64 (fl c) (fl d)] 27)) (by simp) (by simp) (fun x hx => by
        simp at hx
        rcases hx with rfl | rfl
        · exact ⟨⟨x0, x1⟩, ⟨y0, y1⟩⟩
        · exact ⟨⟨z0, z1⟩, ⟨v0, v1⟩⟩) (fun i x hx => by
        rw [hblk.cell i]
        match i, hx with
        | 0, hx => simp at hx; subst hx; rfl
        | 1, hx => simp at hx; subst hx; rfl)
      rw [show sumA [(a, b), (c, d)] = a + c from by simp [sumA], show sumB [(a, b), (c, d)] = b + d from by simp [sumB], show (([(a, b), (c, d)] : List (Int × Int)).length : Int) = 2 from rfl, show ([(a, b), (c, d)] : List (Int × Int)).length = 2 from rfl] at hM2
      have hM2 := hide hM2
      have E1 := ord_self ha
      have E2 := ord_self hb
      have HB1 := hide (between_any ((a + c) / 2) a c ⟨by omega, by omega⟩ ha hc (half_between a c).1 (half_between a c).2)
      have HB2 := hide (between_any ((b + d) / 2) b d ⟨by omega, by omega⟩ hb hd (half_between b d).1 (half_between b d).2)
      clear ha hb hc hd hblk hO hg
      go_wp2_with fail
      refine hM.out.mono ?_
      rintro e w' ⟨rfl, rfl⟩
      go_wp2_with fail
      refine hM2.out.mono ?_
      rintro e w' ⟨rfl, rfl⟩
      go_wp2_with fail
      refine (Mean_nil _).mono ?_
      rintro e w' ⟨rfl, rfl⟩
      go_wp2_with fail
      refine (HB1.out _).mono ?_
      rintro e w' ⟨rfl, rfl⟩
      go_wp2_with fail
      refine (HB2.out _).mono ?_
      rintro e w' ⟨rfl, rfl⟩
      go_wp2_with fail
      refine (awake_any _).mono ?_
      rintro e w' ⟨rfl, rfl⟩
      go_wp2_with fail
      go_ret
      exact ⟨rfl, below_of_gb hg0⟩
end Go.Proofs.Ytppfmnbedihfcaa
