/- Swap. -/
import Derived.Test.YteddhpkbojlimaaLk3
namespace Go.Proofs.Yteddhpkbojlimaa
open Go.RowKit
attribute [local go_sem] max_two min_two max2_max min2_min
attribute [local go_sem ↓] Go.wp_at_zero Go.wp_at_succ

theorem swap_out (b base : Nat) (q : List (Int × ByteArray)) (lost i : Int) (w : World) (hb : LkAt w b base q lost) (h : i < 0 ∨ (q.length : Int) ≤ i) :
    Calls Try.prog 15 #[.pointer (some ⟨b, 0, none⟩), .int .i64 i] w fun e w' => e = .returned (.bool false) ∧ w = w' := by
  have HC := hide (none_out b base q lost i w hb h)
  clear h
  go_enter Try.func15, Try.ntmps15
  go_wp2_with fail
  refine HC.out.mono ?_
  rintro e w' ⟨rfl, rfl⟩
  go_wp2_with fail
  go_ret
  exact ⟨rfl, rfl⟩
theorem swap_last (b base : Nat) (q : List (Int × ByteArray)) (lost : Int) (i : Nat) (w : World) (hb : LkAt w b base q lost) (h : i + 1 = q.length) (hq : q.length ≤ 1000) :
    Calls Try.prog 15 #[.pointer (some ⟨b, 0, none⟩), .int .i64 i] w fun e w' => e = .returned (.bool false) ∧ w = w' := by
  have HC := hide (none_in b base q lost i w hb (by omega) (by omega))
  obtain ⟨A, c, hB, ho⟩ := hb
  have hc : w.cell? ⟨b, 0, none⟩ = some (.slice A q.length c) := Blk.cell hB 0
  rw [← h] at hc
  have hi : (i : Int) ≤ 1000 := by omega
  clear h ho hB
  go_enter Try.func15, Try.ntmps15
  go_wp2_with fail
  refine HC.out.mono ?_
  rintro e w' ⟨rfl, rfl⟩
  go_wp2_with fail
  go_ret
  exact ⟨rfl, rfl⟩

/-- Two that change places. -/
def swp (q : List (Int × ByteArray)) (i : Nat) (x y : Int × ByteArray) : List (Int × ByteArray) := (q.set i y).set (i + 1) x
theorem swp_length (q : List (Int × ByteArray)) (i : Nat) (x y : Int × ByteArray) : (swp q i x y).length = q.length := by simp [swp]
theorem flat_set : ∀ (q : List (Int × ByteArray)) (i : Nat) (x : Int × ByteArray), i < q.length → flat (q.set i x) = ((flat q).set (i * 2) (.int .i64 x.1)).set (i * 2 + 1) (.string x.2)
  | [], i, x, h => by simp at h
  | y :: q, 0, x, _ => rfl
  | y :: q, i + 1, x, h => by
    rw [List.set_cons_succ, flat_cons, flat_cons, flat_set q i x (by simpa using h), show (i + 1) * 2 = i * 2 + 1 + 1 by omega]
    rfl

set_option maxHeartbeats 4000000 in
theorem swap_in (b base : Nat) (q : List (Int × ByteArray)) (lost : Int) (i : Nat) (x y : Int × ByteArray) (w : World) (hb : LkAt w b base q lost) (hx : q[i]? = some x) (hy : q[i + 1]? = some y) (hq : q.length ≤ 1000) :
    Calls Try.prog 15 #[.pointer (some ⟨b, 0, none⟩), .int .i64 i] w fun e w' => e = .returned (.bool true) ∧ LkAt w' b base (swp q i x y) lost ∧ ∃ g, base ≤ g ∧ w.grownBy w' (some g) := by
  have hi : i + 1 < q.length := by
    rcases Nat.lt_or_ge (i + 1) q.length with h1 | h1
    · exact h1
    · rw [List.getElem?_eq_none h1] at hy; cases hy
  have HC := hide (none_in b base q lost i w hb (by omega) (by omega))
  obtain ⟨A, c, hB, ho⟩ := hb
  have hc : w.cell? ⟨b, 0, none⟩ = some (.slice A q.length c) := Blk.cell hB 0
  obtain ⟨g, rfl⟩ := own_addr ho (by omega)
  have hX := flat_from q i x hx
  have hY := flat_from q (i + 1) y hy
  rw [show (i + 1) * 2 = i * 2 + 2 by omega] at hY
  have h0 : w.cell? ⟨g, i * 2, none⟩ = some (.int .i64 x.1) := by rw [ho.cellAt _ (by omega)]; exact hX.1
  have h1 : w.cell? ⟨g, i * 2 + 1, none⟩ = some (.string x.2) := by rw [ho.cellAt _ (by omega)]; exact hX.2
  have h2 : w.cell? ⟨g, (i + 1) * 2, none⟩ = some (.int .i64 y.1) := by rw [show (i + 1) * 2 = i * 2 + 2 by omega, ho.cellAt _ (by omega)]; exact hY.1
  have h3 : w.cell? ⟨g, (i + 1) * 2 + 1, none⟩ = some (.string y.2) := by rw [show (i + 1) * 2 = i * 2 + 2 by omega, ho.cellAt _ (by omega)]; exact hY.2
  have f0 := ho.frozenAt (i * 2)
  have f1 := ho.frozenAt (i * 2 + 1)
  have f2 := ho.frozenAt ((i + 1) * 2)
  have f3 := ho.frozenAt ((i + 1) * 2 + 1)
  obtain ⟨n, hn⟩ : ∃ n, q.length = n := ⟨_, rfl⟩
  rw [hn] at hc hi hq
  have hi1 : (i : Int) + 1 < (n : Int) := by omega
  have hi2 : (0 : Int) ≤ (i : Int) := by omega
  have hi3 : (i : Int) < (n : Int) := by omega
  have hi4 : (0 : Int) ≤ (i : Int) + 1 := by omega
  have hne : ¬ (i + 1 = n) := by omega
  have t1 : (((i : Int) + 1) == (n : Int)) = false := by rw [beq_eq_false_iff_ne]; omega
  have hw1 : IntKind.i64.wrap ((i : Int) + 1) = (i : Int) + 1 := by rw [IntKind.wrap_i64]; omega
  have hw2 : ((i : Int) + 1).toNat = i + 1 := by omega
  have HN := hide hn
  have HO := hide ho
  have HB := hide hB
  clear hX hY hx hy ho hB hn
  go_enter Try.func15, Try.ntmps15
  go_wp2_with fail
  refine HC.out.mono ?_
  rintro e w' ⟨rfl, rfl⟩
  go_wp2_with fail
  go_region
  go_wp2_with fail
  go_ret
  have O := HO.out
  have N := HN.out
  have hbase := own_base O rfl
  have s1 := O.stored (i * 2) (.int .i64 y.1)
  have s2 := s1.1.stored (i * 2 + 1) (.string y.2)
  have s3 := s2.1.stored ((i + 1) * 2) (.int .i64 x.1)
  have s4 := s3.1.stored ((i + 1) * 2 + 1) (.string x.2)
  have e : (((((flat q).set (i * 2) (.int .i64 y.1)).set (i * 2 + 1) (.string y.2)).set ((i + 1) * 2) (.int .i64 x.1)).set ((i + 1) * 2 + 1) (.string x.2)) = flat (swp q i x y) := by
    unfold swp
    rw [flat_set _ _ _ (by simp; omega), flat_set _ _ _ (by omega)]
  have hg := gb_trans (gb_trans (gb_trans s1.2 s2.2) s3.2) s4.2
  have O4 := s4.1
  rw [e] at O4
  have hbg : some b ≠ some g := fun h => own_ne_blk O HB.out (by decide) h.symm
  have B4 := Blk.other HB.out hg hbg
  refine ⟨rfl, ⟨some ⟨g, 0, none⟩, c, ?_, ?_⟩, g, hbase, ?_⟩
  · rw [swp_length]
    exact Blk.drew B4
  · rw [swp_length]
    first
      | exact own_kept O4 (gb_drew (gb_refl _ _))
      | (rw [N]; rw [N] at O4; exact own_kept O4 (gb_drew (gb_refl _ _)))
      | (rw [N]; exact own_kept O4 (gb_drew (gb_refl _ _)))
  · exact gb_drew hg
end Go.Proofs.Yteddhpkbojlimaa
