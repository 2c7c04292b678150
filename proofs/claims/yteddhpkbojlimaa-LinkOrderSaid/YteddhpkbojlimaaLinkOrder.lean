/- The walk of LinkOrder. -/
import Derived.Test.YteddhpkbojlimaaLk5
import Derived.ChangeOld
import Derived.Below
import Derived.WalkLawsBesides
namespace Go.Proofs.Yteddhpkbojlimaa
open Go.RowKit
attribute [local go_sem] max_two min_two max2_max min2_min

/-- The string of one byte. -/
def ch (j : Nat) : ByteArray := ByteArray.empty.push (UInt8.ofNat j)
theorem ch_size (j : Nat) : (ch j).size = 1 := rfl
theorem conv_ch (w : World) (j : Nat) : (convert 36 9 (.slice (some ⟨w.heap.size, 0, none⟩) 1 1)).run Try.prog (w.alloc (.cells #[.int .u8 j] 5)) = .ok (.string (ch j)) (w.alloc (.cells #[.int .u8 j] 5)) := by
  have hl := run_loadCells_list (P := Try.prog) (w.alloc (.cells #[.int .u8 j] 5)) ⟨w.heap.size, 0, none⟩ [.int .u8 j] (fun k v hk => by
    match k, hk with
    | 0, hk =>
      simp at hk
      subst hk
      exact Blk.cell (Blk.new w 5 #[.int .u8 j]) 0)
  rw [run_convert_bytes_string _ 36 9 5 _ 1 1 Try.underlying36 Try.underlying5 Try.underlying9]
  rw [run_bytesToString (P := Try.prog) (w.alloc (.cells #[.int .u8 j] 5)) ⟨w.heap.size, 0, none⟩ 1 1 [(j : Int)] hl]
  rfl

def msgs (n : Nat) : List (Int × ByteArray) := (List.range n).map fun j : Nat => ((j : Int), ch j)
theorem msgs_succ (n : Nat) : msgs (n + 1) = msgs n ++ [((n : Int), ch n)] := by simp [msgs, List.range_succ]
theorem msgs_length (n : Nat) : (msgs n).length = n := by simp [msgs]
theorem msgs_drop (n i : Nat) (h : i < n) : (msgs n).drop i = ((i : Int), ch i) :: (msgs n).drop (i + 1) := by
  rw [List.drop_eq_getElem_cons (by rw [msgs_length]; exact h)]
  simp [msgs]

set_option maxHeartbeats 4000000 in
set_option maxRecDepth 100000 in
theorem linkOrder_walk (a0 : Int) (_ : (Lit.int .i64 a0).wf = true) (w : World) :
    Calls Try.prog 5 #[.int .i64 a0] w fun e w' => e = .returned (.bool true) ∧ Below w.heap.size w w' := by
  have k0 := Int.emod_nonneg a0 (b := 100) (by omega)
  have k1 := Int.emod_lt_of_pos a0 (b := 100) (by omega)
  go_enter Try.func5, Try.ntmps5
  go_wp2_with fail
  refine (new_any w.heap.size w).mono ?_
  rintro e w1 ⟨rfl, h1, hg1⟩
  go_wp2_with fail
  refine (place_any _ _ _ (by omega) (by omega)).mono ?_
  rintro e w2 ⟨rfl, rfl⟩
  obtain ⟨k, hk⟩ : ∃ k : Nat, a0 % 100 = k := ⟨(a0 % 100).toNat, by omega⟩
  rw [hk] at k0 k1 ⊢
  have hk100 : k < 100 := by omega
  clear hk k0 k1
  go_wp2_with fail
  go_loopw [5] (fun i wr => ∃ (j m : Nat) (lo : Int), i = .int .i64 j ∧ j ≤ k ∧ Hid (m = min j 64) ∧ Hid (lo = max 0 ((j : Int) - 64)) ∧ LkAt wr w.heap.size w.heap.size (msgs m) lo ∧ w.grownBy wr none) (fun i _ => k - (intOf i).toNat)
  case atStart => exact ⟨0, 0, 0, rfl, by omega, hide rfl, hide rfl, h1, hg1⟩
  case round =>
    clear h1 hg1
    obtain ⟨j, m, lo, rfl, hj, hm, hlo, hL, hg⟩ := hrel
    obtain ⟨wo, rfl⟩ : ∃ wo : World, wo = wr := ⟨_, rfl⟩
    by_cases hjk : j < k
    · have hjk' : (j : Int) < (k : Int) := by omega
      have hj0 : (0 : Int) ≤ (j : Int) := by omega
      have hj1 : (j : Int) < 100 := by omega
      have hcv := conv_ch wo j
      have hL1 := hL.keep (World.grownBy_alloc wo (.cells #[.int .u8 j] 5) none)
      have hg1 := gb_alloc hg (.cells #[.int .u8 j] 5)
      clear hL hg
      by_cases hj64 : j < 64
      · have d1 : (j : Int) < 64 := by omega
        have d2 : decide ((j : Int) < 64) = true := by simpa using d1
        have hmj : m = j := by have := hm.out; omega
        subst hmj
        go_wp2_with fail
        refine (put_room _ _ _ _ _ _ _ hL1 (by rw [ch_size]; omega) (by rw [msgs_length]; exact hj64) hg1.size).mono ?_
        rintro e w3 ⟨rfl, hL2, hg2⟩
        rw [← msgs_succ] at hL2
        replace hg2 := gb_young hg1 hg2 (Nat.le_refl _)
        clear hL1 hg1 hcv
        go_wp2_with fail
        exact ⟨⟨m + 1, m + 1, lo, by simp, by omega, hide (by omega), hide (by have := hlo.out; omega), hL2, hg2⟩, by simp [intOf]; omega⟩
      · have d1 : ¬ (j : Int) < 64 := by omega
        have d2 : decide ((j : Int) < 64) = false := by simpa using d1
        have hlo0 : 0 ≤ lo := by have := hlo.out; omega
        have hlo1 : lo ≤ 1000000 := by have := hlo.out; omega
        have hm64 : Hid (m = 64) := hide (by have := hm.out; omega)
        go_wp2_with fail
        refine (put_full _ _ _ _ _ _ _ hL1 (by rw [ch_size]; omega) (by rw [msgs_length]; have := hm64.out; omega) hlo0 hlo1).mono ?_
        rintro e w3 ⟨rfl, hL2, hg2⟩
        replace hg2 := gb_young hg1 hg2 (Nat.le_refl _)
        clear hL1 hg1 hcv
        go_wp2_with fail
        exact ⟨⟨j + 1, m, lo + 1, by simp, by omega, hide (by have := hm.out; omega), hide (by have := hlo.out; omega), hL2, hg2⟩, by simp [intOf]; omega⟩
    · obtain rfl : j = k := by omega
      have HMM : Hid (min (j : Int) 64 = (m : Int)) := hide (by have := hm.out; omega)
      have HLL : Hid (max 0 ((j : Int) - 64) = lo) := hide (by have := hlo.out; omega)
      have hm64 : m ≤ 64 := by have := hm.out; omega
      have hlen := len_any _ _ _ _ _ hL
      rw [msgs_length] at hlen
      have HLEN := hide hlen
      have HLOST := hide (lost_any _ _ _ _ _ hL)
      clear hlen hm hlo
      go_wp2_with fail
      refine HLEN.out.mono ?_
      rintro e w3 ⟨rfl, rfl⟩
      have hmm := HMM.out
      have hll := HLL.out
      go_wp2_with fail
      refine HLOST.out.mono ?_
      rintro e w3 ⟨rfl, rfl⟩
      go_wp2_with fail
      clear hmm hll HLEN HLOST
      have hL' : LkAt wo w.heap.size w.heap.size ((msgs m).drop 0) lo := hL
      go_loopw [7] (fun i wr => ∃ t : Nat, i = .int .i64 t ∧ t ≤ m ∧ LkAt wr w.heap.size w.heap.size ((msgs m).drop t) lo ∧ w.grownBy wr none) (fun i _ => m - (intOf i).toNat)
      case atStart => exact ⟨0, rfl, by omega, hL', hg⟩
      case round =>
        clear hL hL' hg
        obtain ⟨t, rfl, ht, hL, hg⟩ := hrel
        obtain ⟨wp, rfl⟩ : ∃ wo : World, wo = wr := ⟨_, rfl⟩
        have hmm := HMM.out
        by_cases htm : t < m
        · have htm' : (t : Int) < (m : Int) := by omega
          have ht0 : (0 : Int) ≤ (t : Int) := by omega
          have ht1 : (t : Int) < 100 := by omega
          rw [msgs_drop m t htm] at hL
          have HT := hide (take_first _ _ _ _ _ _ hL (by rw [List.length_drop, msgs_length]; omega) hg.size)
          clear hL
          go_wp2_with fail
          refine HT.out.mono ?_
          rintro e w3 ⟨rfl, hL2, hg2⟩
          replace hg2 := gb_young hg hg2 (Nat.le_refl _)
          have hcv := conv_ch w3 t
          clear hg
          go_wp2_with fail
          exact ⟨⟨t + 1, by simp, by omega, hL2.keep (World.grownBy_alloc w3 _ none), gb_alloc hg2 _⟩, by simp [intOf]; omega⟩
        · obtain rfl : t = m := by omega
          have e0 : (msgs t).drop t = [] := List.drop_eq_nil_of_le (by rw [msgs_length]; exact Nat.le_refl _)
          rw [e0] at hL
          clear e0
          have HT := hide (take_none _ _ _ 0 _ hL)
          go_wp2_with fail
          refine HT.out.mono ?_
          rintro e w3 ⟨rfl, rfl⟩
          go_wp2_with fail
          refine (awake_any _).mono ?_
          rintro e w4 ⟨rfl, hg3⟩
          go_wp2_with fail
          go_ret
          exact ⟨rfl, below_of_gb (gb_trans hg hg3)⟩
end Go.Proofs.Yteddhpkbojlimaa
