/- The walk of LinkTwices. -/
import Derived.Test.YteddhpkbojlimaaLk4
import Derived.ChangeOld
import Derived.Below
namespace Go.Proofs.Yteddhpkbojlimaa
open Go.RowKit
attribute [local go_sem] max_two min_two max2_max min2_min

theorem rep_snoc (n : Nat) (x : Int × ByteArray) : List.replicate n x ++ [x] = List.replicate (n + 1) x := by rw [← List.replicate_succ']

set_option maxHeartbeats 4000000 in
set_option maxRecDepth 100000 in
theorem linkTwices_walk (a0 : ByteArray) (a1 : Int) (w0 : a0.size ≤ maxLen) (_ : (Lit.int .i64 a1).wf = true) (w : World) :
    Calls Try.prog 3 #[.string a0, .int .i64 a1] w fun e w' => e = .returned (.bool true) ∧ Below w.heap.size w w' := by
  unfold maxLen at w0
  have k0 := Int.emod_nonneg a1 (b := 90) (by omega)
  have k1 := Int.emod_lt_of_pos a1 (b := 90) (by omega)
  go_enter Try.func3, Try.ntmps3
  go_wp2_with fail
  refine (new_any w.heap.size w).mono ?_
  rintro e w1 ⟨rfl, h1, hg1⟩
  by_cases hs : a0.size ≤ 400
  · have d1 : ¬ (400 : Int) < (a0.size : Int) := by omega
    go_wp2_with fail
    refine (put_room _ _ _ _ _ _ _ h1 hs (by decide) hg1.size).mono ?_
    rintro e w2 ⟨rfl, h2, hg2⟩
    replace hg2 := gb_young hg1 hg2 (Nat.le_refl _)
    clear h1 hg1
    go_wp2_with fail
    refine (place_any _ _ _ (by omega) (by omega)).mono ?_
    rintro e w3 ⟨rfl, rfl⟩
    obtain ⟨k, hk⟩ : ∃ k : Nat, a1 % 90 = k := ⟨(a1 % 90).toNat, by omega⟩
    rw [hk] at k0 k1 ⊢
    have hk90 : k < 90 := by omega
    clear hk k0 k1 d1
    obtain ⟨X, hX⟩ : ∃ X : Int × ByteArray, X = (5, a0) := ⟨_, rfl⟩
    have hX2 : X.2.size ≤ 400 := by rw [hX]; exact hs
    have h2' : LkAt w2 w.heap.size w.heap.size (List.replicate 1 X) 0 := by rw [hX]; exact h2
    clear h2
    have HX := hide hX
    clear hX
    go_wp2_with fail
    go_loopw [7] (fun i wr => ∃ (j m : Nat) (lo : Int), i = .int .i64 j ∧ j ≤ k ∧ Hid (m = min (j + 1) 64) ∧ Hid (lo = max 0 ((j : Int) + 1 - 64)) ∧ LkAt wr w.heap.size w.heap.size (List.replicate m X) lo ∧ w.grownBy wr none) (fun i _ => k - (intOf i).toNat)
    case atStart => exact ⟨0, 1, 0, rfl, by omega, hide rfl, hide rfl, h2', hg2⟩
    case round =>
      clear h2' hg2
      obtain ⟨j, m, lo, rfl, hj, hm, hlo, hL, hg3⟩ := hrel
      obtain ⟨wo, rfl⟩ : ∃ wo : World, wo = wr := ⟨_, rfl⟩
      have hm1 : 1 ≤ m ∧ m ≤ 64 := by have := hm.out; omega
      have hql : (List.replicate m X).length = m := by simp
      have hlen := len_any _ _ _ _ _ hL
      rw [hql] at hlen
      by_cases hjk : j < k
      · have hjk' : (j : Int) < (k : Int) := by omega
        have hmpos : (0 : Int) < (m : Int) := by omega
        have hmne : ¬ (m : Int) = 0 := by omega
        have hjpos : (0 : Int) ≤ (j : Int) := by omega
        have ht : ((j : Int).tmod (m : Int)) = ((j % m : Nat) : Int) := by
          rw [Int.tmod_eq_emod_of_nonneg (by omega)]
          rfl
        have ht2 : ((j : Int) % (m : Int)) = ((j % m : Nat) : Int) := rfl
        have hgx : (List.replicate m X)[j % m]? = some X := by
          rw [List.getElem?_replicate, if_pos (Nat.mod_lt _ (by omega))]
        have HGX := hide hgx
        have HT := hide ht
        have HLEN := hide hlen
        have HQL := hide hql
        clear hgx ht ht2 hlen hql
        go_wp2_with fail
        refine HLEN.out.mono ?_
        rintro e w5 ⟨rfl, rfl⟩
        go_wp2_with fail
        rw [show ((j : Int) % (m : Int)) = ((j % m : Nat) : Int) from rfl]
        by_cases hfull : m < 64
        · refine (twice_room _ _ _ _ (j % m) X _ hL HGX.out hX2 (by rw [HQL.out]; exact hfull) hg3.size).mono ?_
          rintro e w6 ⟨rfl, hL2, hg4⟩
          rw [rep_snoc] at hL2
          replace hg4 := gb_young hg3 hg4 (Nat.le_refl _)
          clear hL hg3
          go_wp2_with fail
          exact ⟨⟨j + 1, m + 1, lo, by simp, by omega, hide (by have := hm.out; omega), hide (by have := hlo.out; have := hm.out; omega), hL2, hg4⟩, by simp [intOf]; omega⟩
        · have hm64 : m = 64 := by omega
          have hlo0 : 0 ≤ lo := by have := hlo.out; omega
          have hlo1 : lo ≤ 1000000 := by have := hlo.out; omega
          have HM := hide hm64
          clear hm64
          refine (twice_full _ _ _ _ (j % m) X _ hL HGX.out hX2 (by rw [HQL.out]; exact HM.out) hlo0 hlo1).mono ?_
          rintro e w6 ⟨rfl, hL2, hg4⟩
          replace hg4 := gb_young hg3 hg4 (Nat.le_refl _)
          clear hL hg3
          go_wp2_with fail
          exact ⟨⟨j + 1, m, lo + 1, by simp, by omega, hide (by have := hm.out; have := HM.out; omega), hide (by have := hlo.out; have := hm.out; have := HM.out; omega), hL2, hg4⟩, by simp [intOf]; omega⟩
      · obtain rfl : j = k := by omega
        have hmm : min ((j : Int) + 1) 64 = (m : Int) := by have := hm.out; omega
        have hll : max 0 ((j : Int) + 1 - 64) = lo := by have := hlo.out; omega
        have HMM := hide hmm
        have HLL := hide hll
        have HLEN := hide hlen
        have HQL := hide hql
        have hlost := hide (lost_any _ _ _ _ _ hL)
        clear hlen hql hmm hll hm hlo
        go_wp2_with fail
        refine HLEN.out.mono ?_
        rintro e w5 ⟨rfl, rfl⟩
        have hmm := HMM.out
        have hll := HLL.out
        go_wp2_with fail
        refine hlost.out.mono ?_
        rintro e w5 ⟨rfl, rfl⟩
        go_wp2_with fail
        clear hmm hll HLEN hlost
        go_loopw [8] (fun i wr => ∃ t : Nat, i = .int .i64 t ∧ t ≤ m ∧ LkAt wr w.heap.size w.heap.size (List.replicate m X) lo ∧ w.grownBy wr none) (fun i _ => m - (intOf i).toNat)
        case atStart => exact ⟨0, rfl, by omega, hL, hg3⟩
        case round =>
          clear hL hg3
          obtain ⟨t, rfl, ht, hL, hg3⟩ := hrel
          obtain ⟨wp, rfl⟩ : ∃ wo : World, wo = wr := ⟨_, rfl⟩
          have hlen := len_any _ _ _ _ _ hL
          rw [HQL.out] at hlen
          have HLEN := hide hlen
          clear hlen
          by_cases htm : t < m
          · have htm' : (t : Int) < (m : Int) := by omega
            have hgx : (List.replicate m X)[t]? = some X := by rw [List.getElem?_replicate, if_pos htm]
            have HK := hide (look_in _ _ _ _ t X _ hL hgx (by rw [HQL.out]; omega))
            clear hgx
            go_wp2_with fail
            refine HLEN.out.mono ?_
            rintro e w5 ⟨rfl, rfl⟩
            go_wp2_with fail
            refine HK.out.mono ?_
            rintro e w5 ⟨rfl, n, rfl⟩
            rw [show X.1 = 5 from by rw [HX.out], show X.2 = a0 from by rw [HX.out]]
            go_wp2_with fail
            exact ⟨⟨t + 1, by simp, by omega, hL.drewN n, gb_drewN hg3 n⟩, by simp [intOf]; omega⟩
          · obtain rfl : t = m := by omega
            go_wp2_with fail
            refine HLEN.out.mono ?_
            rintro e w5 ⟨rfl, rfl⟩
            go_wp2_with fail
            refine (clear_any _ _ _ _ _ hL).mono ?_
            rintro e w6 ⟨rfl, hL2, hg4⟩
            replace hg4 := gb_young hg3 hg4 (Nat.le_refl _)
            have h0 := hide (show Calls Try.prog 11 #[.pointer (some ⟨w.heap.size, 0, none⟩)] w6 fun e w' => e = .returned (.int .i64 0) ∧ w6 = w' from len_any _ _ _ _ _ hL2)
            have h1 := hide (lost_any _ _ _ _ _ hL2)
            go_wp2_with fail
            refine h0.out.mono ?_
            rintro e w7 ⟨rfl, rfl⟩
            have hll := HLL.out
            go_wp2_with fail
            refine h1.out.mono ?_
            rintro e w7 ⟨rfl, rfl⟩
            go_wp2_with fail
            refine (awake_any _).mono ?_
            rintro e w8 ⟨rfl, hg5⟩
            go_wp2_with fail
            go_ret
            exact ⟨rfl, below_of_gb (gb_trans hg4 hg5)⟩
  · have d1 : (400 : Int) < (a0.size : Int) := by omega
    go_wp2_with fail
    refine (awake_any _).mono ?_
    rintro e w2 ⟨rfl, hg2⟩
    go_wp2_with fail
    go_ret
    exact ⟨rfl, below_of_gb (gb_trans hg1 hg2)⟩
end Go.Proofs.Yteddhpkbojlimaa
