/- Put. -/
import Derived.Test.YteddhpkbojlimaaLk
import Derived.BigRegion
import Derived.Deep.DrawnRows
namespace Go.Proofs.Yteddhpkbojlimaa
open Go.RowKit
attribute [local go_sem] max_two min_two max2_max min2_min
attribute [local go_sem ↓] Go.wp_at_zero Go.wp_at_succ

theorem put_long (b : Nat) (from_ : Int) (s : ByteArray) (w : World) (h : 400 < s.size) :
    Calls Try.prog 8 #[.pointer (some ⟨b, 0, none⟩), .int .i64 from_, .string s] w fun e w' => e = .returned (.int .i64 3) ∧ w = w' := by
  have d1 : (400 : Int) < (s.size : Int) := by omega
  go_enter Try.func8, Try.ntmps8
  go_wp2_with fail
  go_ret
  exact ⟨rfl, rfl⟩
theorem put_full (b base : Nat) (q : List (Int × ByteArray)) (lost : Int) (from_ : Int) (s : ByteArray) (w : World) (hb : LkAt w b base q lost) (h : s.size ≤ 400) (hq : 64 ≤ q.length) (hl0 : 0 ≤ lost) (hl1 : lost ≤ 1000000) :
    Calls Try.prog 8 #[.pointer (some ⟨b, 0, none⟩), .int .i64 from_, .string s] w fun e w' => e = .returned (.int .i64 7) ∧ LkAt w' b base q (lost + 1) ∧ w.grownBy w' (some b) := by
  obtain ⟨A, c, hB, ho⟩ := hb
  have hc : w.cell? ⟨b, 0, none⟩ = some (.slice A q.length c) := Blk.cell hB 0
  have hc1 : w.cell? ⟨b, 1, none⟩ = some (.int .i64 lost) := Blk.cell hB 1
  have hf := Blk.free hB 1
  have d1 : ¬ (400 : Int) < (s.size : Int) := by omega
  have d2 : (64 : Int) ≤ (q.length : Int) := by omega
  go_enter Try.func8, Try.ntmps8
  go_wp2_with fail
  go_ret
  have hg := gb_set (gb_refl w (some b)) 1 (.int .i64 (lost + 1))
  refine ⟨rfl, ⟨A, c, Blk.set hB 1 _, ho.kept hg ?_⟩, hg⟩
  exact .inr (own_ne_blk ho hB (by decide))

theorem news2 (w : World) (t : TypeId) (x y : Value) : ∀ (j : Nat) (u : Value), [x, y][j]? = some u → (w.alloc (.cells #[x, y] t)).drew.cell? ((⟨w.heap.size, 0, none⟩ : Addr).add j) = some u := by
  intro j u hj
  rw [show ((⟨w.heap.size, 0, none⟩ : Addr).add j) = ⟨w.heap.size, j, none⟩ from by unfold Addr.add; split <;> simp_all]
  rw [Blk.cell (Blk.drew (Blk.new w t #[x, y]))]
  rw [← hj]
  simp

theorem put_end {w w5 : World} {b base n c g cap : Nat} {A : Option Addr} {q : List (Int × ByteArray)} {lost from_ : Int} {s : ByteArray} (hB5 : Blk w5 b 39 #[.slice A n c, .int .i64 lost])
    (ho5 : w5.ownsRow base 41 2 (.slice (some ⟨g, 0, none⟩) (n + 1) cap) (n + 1) (flat q ++ [.int .i64 from_, .string s])) (hn : q.length = n) (hg : w.grownBy w5 none) :
    LkAt (w5.setCell ⟨b, 0, none⟩ (.slice (some ⟨g, 0, none⟩) (n + 1) cap)) b base (q ++ [(from_, s)]) lost ∧ w.grownBy (w5.setCell ⟨b, 0, none⟩ (.slice (some ⟨g, 0, none⟩) (n + 1) cap)) (some b) := by
  have hl : (q ++ [(from_, s)]).length = n + 1 := by simp [hn]
  have hf : flat (q ++ [(from_, s)]) = flat q ++ [.int .i64 from_, .string s] := flat_append _ _
  have h1 := gb_set (gb_refl w5 (some b)) 0 (.slice (some ⟨g, 0, none⟩) (n + 1) cap)
  refine ⟨⟨some ⟨g, 0, none⟩, cap, ?_, ?_⟩, gb_trans (gb_any hg) h1⟩
  · rw [hl]
    exact Blk.set hB5 0 _
  · rw [hl, hf]
    exact ho5.kept h1 (.inr (own_ne_blk ho5 hB5 (by decide)))

set_option maxHeartbeats 4000000 in
theorem put_room (b base : Nat) (q : List (Int × ByteArray)) (lost : Int) (from_ : Int) (s : ByteArray) (w : World) (hb : LkAt w b base q lost) (h : s.size ≤ 400) (hq : q.length < 64) (hbase : base ≤ w.heap.size) :
    Calls Try.prog 8 #[.pointer (some ⟨b, 0, none⟩), .int .i64 from_, .string s] w fun e w' => e = .returned (.int .i64 0) ∧ LkAt w' b base (q ++ [(from_, s)]) lost ∧ w.grownBy w' (some b) := by
  obtain ⟨A, c, hB, ho⟩ := hb
  obtain ⟨n, hn⟩ : ∃ n, q.length = n := ⟨_, rfl⟩
  rw [hn] at hB ho hq
  have hc : w.cell? ⟨b, 0, none⟩ = some (.slice A n c) := Blk.cell hB 0
  have hf := Blk.free hB 0
  have hle := own_le ho
  have HLE := hide hle
  have d1 : ¬ (400 : Int) < (s.size : Int) := by omega
  have d2 : ¬ (64 : Int) ≤ (n : Int) := by omega
  have b0 : (0 : Int) ≤ (n : Int) := by omega
  have b1 : (n : Int) ≤ (c : Int) := by omega
  have HN := hide hn
  have hcA : (w.alloc (.cells #[.int .i64 from_, .string s] 41)).cell? ⟨b, 0, none⟩ = some (.slice A n c) := Blk.cell (Blk.alloc hB _) 0
  obtain ⟨i, hi, hz, hs, hby⟩ := info_parts Try.info41
  have II := hide (And.intro hi (And.intro hz (And.intro hs hby)))
  have HB := hide hB
  have HO := hide ho
  clear hi hz hs hby hn hle hB ho
  go_enter Try.func8, Try.ntmps8
  go_wp2_with fail
  go_region_law ((refine step_append_cut _ rfl (.tmp 40) (.tmp 44) 37 rfl base 41 i _ 2 24 Try.underlying37 II.out.1 II.out.2.1 II.out.2.2.1 II.out.2.2.2 rfl A n c (flat q) (by rfl) (own_kept HO.out (gb_drew (gb_alloc (gb_refl _ _) _))) ⟨w.heap.size, 0, none⟩ 1 1 [.int .i64 from_, .string s] (by rfl) (by rfl) (news2 _ _ _ _) (by omega) (by unfold maxLen; omega) (by omega) (by have := hbase; simp; omega) ?_; intro cap w5 ho5 hg5; have hB5 := Blk.other HB.out (gb_trans (gb_drew (gb_alloc (gb_refl _ _) _)) hg5) (by simp); have hc5 : w5.cell? ⟨b, 0, none⟩ = some (.slice A n c) := Blk.cell hB5 0; have hf5 := Blk.free hB5 0))
  all_goals
    go_wp2_with fail
    go_ret
    refine ⟨rfl, put_end (g := w.heap.size + 1) hB5 ?_ HN.out (gb_trans (gb_drew (gb_alloc (gb_refl _ _) _)) hg5)⟩
    have h5 := ho5
    rw [show (w.alloc (.cells #[.int .i64 from_, .string s] 41)).drew.heap.size = w.heap.size + 1 from by simp] at h5
    exact h5
end Go.Proofs.Yteddhpkbojlimaa
