/- Twice, Swap. -/
import Derived.Test.YteddhpkbojlimaaLk2
namespace Go.Proofs.Yteddhpkbojlimaa
open Go.RowKit
attribute [local go_sem] max_two min_two max2_max min2_min
attribute [local go_sem ↓] Go.wp_at_zero Go.wp_at_succ

theorem twice_room (b base : Nat) (q : List (Int × ByteArray)) (lost : Int) (i : Nat) (x : Int × ByteArray) (w : World) (hb : LkAt w b base q lost) (hx : q[i]? = some x) (h : x.2.size ≤ 400) (hq : q.length < 64) (hbase : base ≤ w.heap.size) :
    Calls Try.prog 10 #[.pointer (some ⟨b, 0, none⟩), .int .i64 i] w fun e w' => e = .returned (.int .i64 0) ∧ LkAt w' b base (q ++ [x]) lost ∧ w.grownBy w' (some b) := by
  go_enter Try.func10, Try.ntmps10
  go_wp2_with fail
  refine (look_in b base q lost i x w hb hx (by omega)).mono ?_
  rintro e w1 ⟨rfl, n, rfl⟩
  go_wp2_with fail
  refine (put_room b base q lost x.1 x.2 _ (hb.drewN n) h hq hbase).mono ?_
  rintro e w2 ⟨rfl, h2, hg⟩
  go_wp2_with fail
  go_ret
  exact ⟨rfl, h2, gb_trans (gb_drewN (gb_refl _ _) n) hg⟩
theorem twice_full (b base : Nat) (q : List (Int × ByteArray)) (lost : Int) (i : Nat) (x : Int × ByteArray) (w : World) (hb : LkAt w b base q lost) (hx : q[i]? = some x) (h : x.2.size ≤ 400) (hq : q.length = 64) (hl0 : 0 ≤ lost) (hl1 : lost ≤ 1000000) :
    Calls Try.prog 10 #[.pointer (some ⟨b, 0, none⟩), .int .i64 i] w fun e w' => e = .returned (.int .i64 7) ∧ LkAt w' b base q (lost + 1) ∧ w.grownBy w' (some b) := by
  have HQ := hide hq
  clear hq
  go_enter Try.func10, Try.ntmps10
  go_wp2_with fail
  refine (look_in b base q lost i x w hb hx (by have := HQ.out; omega)).mono ?_
  rintro e w1 ⟨rfl, n, rfl⟩
  go_wp2_with fail
  refine (put_full b base q lost x.1 x.2 _ (hb.drewN n) h (by have := HQ.out; omega) hl0 hl1).mono ?_
  rintro e w2 ⟨rfl, h2, hg⟩
  go_wp2_with fail
  go_ret
  exact ⟨rfl, h2, gb_trans (gb_drewN (gb_refl _ _) n) hg⟩

theorem awake_any (w : World) : Calls Try.prog 7 #[] w fun e w' => e = .returned (.bool true) ∧ w.grownBy w' none := by
  go_enter Try.func7, Try.ntmps7
  go_wp2_with fail
  refine (new_any w.heap.size w).mono ?_
  rintro e w1 ⟨rfl, h1, hg1⟩
  go_wp2_with fail
  refine (put_room _ _ _ _ _ _ _ h1 (by decide) (by decide) hg1.size).mono ?_
  rintro e w2 ⟨rfl, h2, hg2⟩
  replace hg2 := gb_young hg1 hg2 (Nat.le_refl _)
  clear h1 hg1
  go_wp2_with fail
  refine (twice_room _ _ _ _ 0 (3, ⟨#[97, 98]⟩) _ h2 rfl (by decide) (by decide) hg2.size).mono ?_
  rintro e w3 ⟨rfl, h3, hg3⟩
  replace hg3 := gb_young hg2 hg3 (Nat.le_refl _)
  clear h2 hg2
  go_wp2_with fail
  refine (len_any _ _ _ _ _ h3).mono ?_
  rintro e w4 ⟨rfl, rfl⟩
  go_wp2_with fail
  refine (lost_any _ _ _ _ _ h3).mono ?_
  rintro e w4 ⟨rfl, rfl⟩
  go_wp2_with fail
  go_ret
  exact ⟨rfl, hg3⟩

theorem place_emod {v n : Int} (hn : 0 < n) : (v.tmod n < 0 → v.tmod n + n = v % n) ∧ (0 ≤ v.tmod n → v.tmod n = v % n) := by
  have h1 := Int.tmod_add_mul_tdiv v n
  have h2 := Int.emod_add_mul_ediv v n
  have h3 := Int.emod_nonneg v (b := n) (by omega)
  have h4 := Int.emod_lt_of_pos v hn
  constructor
  · intro h
    rw [Int.tmod_eq_emod] at h ⊢
    split at h <;> rename_i hc
    · omega
    · rw [if_neg hc]
      omega
  · intro h
    rw [Int.tmod_eq_emod] at h ⊢
    split at h <;> rename_i hc
    · rw [if_pos hc]; simp
    · omega
theorem place_any (v n : Int) (w : World) (hn0 : 0 < n) (hn1 : n ≤ 4611686018427387904) :
    Calls Try.prog 9 #[.int .i64 v, .int .i64 n] w fun e w' => e = .returned (.int .i64 (v % n)) ∧ w = w' := by
  have h1 := (place_emod (v := v) hn0).1
  have h2 := (place_emod (v := v) hn0).2
  have h3 := Int.emod_nonneg v (b := n) (by omega)
  have h4 := Int.emod_lt_of_pos v hn0
  have H1 := hide h1; clear h1
  have H2 := hide h2; clear h2
  go_enter Try.func9, Try.ntmps9
  go_wp2
  · go_ret
    refine ⟨ret_int ?_, rfl⟩
    have h : v.tmod n < 0 := by assumption
    rw [H1.out h]
    unfold wrap64
    omega
  · go_ret
    refine ⟨ret_int ?_, rfl⟩
    exact H2.out (by assumption)
end Go.Proofs.Yteddhpkbojlimaa
