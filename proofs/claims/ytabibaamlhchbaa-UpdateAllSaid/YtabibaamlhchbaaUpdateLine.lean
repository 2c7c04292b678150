/- The walk of UpdateLine. -/
import Derived.Test.YtabibaamlhchbaaSay
import Derived.Test.YtabibaamlhchbaaUpd2
import Derived.Test.YtabibaamlhchbaaOpen
import Derived.Deep.MidRow
import Derived.Deep.DrawnRows
import Derived.ChangeOld
import Derived.Below
namespace Go.Proofs.Ytabibaamlhchbaa
open Go.RowKit
attribute [local go_sem] max_two min_two max2_max min2_min
attribute [local go_sem ↓] Go.wp_at_zero Go.wp_at_succ

theorem Blk.range {w : World} {b : Nat} {t : TypeId} {cs : List Value} (h : Blk w b t cs.toArray) : w.rangeAt b 0 cs := fun j v hv => by
  rw [Nat.zero_add, h.cell]
  simpa using hv
theorem Try.siz36 : (Try.prog.info? 36).map (·.size) = some 23 := by kernel_rfl
theorem Try.siz42 : (Try.prog.info? 42).map (·.size) = some 12 := by kernel_rfl
theorem Try.siz40 : (Try.prog.info? 40).map (·.size) = some 11 := by kernel_rfl
theorem Try.siz46 : (Try.prog.info? 46).map (·.size) = some 23 := by kernel_rfl
theorem with_row2 (w3 : World) (t : TypeId) (z m : Array Value) : Blk ((w3.alloc (.cells z t)).setRow w3.heap.size m) w3.heap.size t m ∧ w3.grownBy ((w3.alloc (.cells z t)).setRow w3.heap.size m) none :=
  ⟨Blk.setRow (Blk.new w3 t z) m, gb_setRow (gb_alloc (gb_refl _ _) _) (Nat.le_refl _) m⟩
theorem gb_row (w : World) (b : Nat) (cs : Array Value) : w.grownBy (w.setRow b cs) (some b) :=
  ⟨rfl, rfl, rfl, by simp [World.setRow], fun k hk hne => by
    simp only [World.setRow, Array.getElem?_modify]
    rw [if_neg (fun e => hne (by rw [e]))]⟩
theorem wrap_succ {j : Int} (h0 : 0 ≤ j) (h1 : j ≤ 1000) : wrap64 (j + 1) = j + 1 := by unfold wrap64; omega

set_option maxHeartbeats 8000000 in
set_option maxRecDepth 100000 in
theorem updateLine_walk (c0 : Int) (c1 : Int) (c2 : Int) (c3 : Int) (c4 : Int) (c5 : Int) (c6 : Int) (c7 : Int) (c8 : Bool) (c9 : Int) (c10 : Int) (c11 : Int) (c12 : Int) (c13 : Bool) (c14 : Bool) (c15 : Int) (c16 : Int) (c17 : Int) (c18 : Int) (c19 : Int) (c20 : Int) (c21 : Int) (c22 : Bool) (a1 : Option Addr) (len1 cap1 : Nat) (z1 : List Int) (w : World) (w1 : IsRow .u64 w a1 len1 cap1 z1) :
    Calls Try.prog 6 #[.agg #[.int .u64 c0, .int .i64 c1, .int .i64 c2, .int .i64 c3, .int .i64 c4, .int .i64 c5, .int .i64 c6, .int .i64 c7, .bool c8, .int .i64 c9, .int .i64 c10, .int .i64 c11, .int .i64 c12, .bool c13, .bool c14, .int .i64 c15, .int .i64 c16, .int .i64 c17, .int .i64 c18, .int .i64 c19, .int .i64 c20, .int .i64 c21, .bool c22], .slice a1 len1 cap1] w fun e w' => e = .returned (.bool true) ∧ Below w.heap.size w w' := by
  have l1 := row_len w1
  go_enter Try.func6, Try.ntmps6
  go_upto_region 1 with (fail)
  have hA : Blk (w.alloc (.cells #[.int .u64 c0, .int .i64 c1, .int .i64 c2, .int .i64 c3, .int .i64 c4, .int .i64 c5, .int .i64 c6, .int .i64 c7, .bool c8, .int .i64 c9, .int .i64 c10, .int .i64 c11, .int .i64 c12, .bool c13, .bool c14, .int .i64 c15, .int .i64 c16, .int .i64 c17, .int .i64 c18, .int .i64 c19, .int .i64 c20, .int .i64 c21, .bool c22] 36)) w.heap.size 36 #[.int .u64 c0, .int .i64 c1, .int .i64 c2, .int .i64 c3, .int .i64 c4, .int .i64 c5, .int .i64 c6, .int .i64 c7, .bool c8, .int .i64 c9, .int .i64 c10, .int .i64 c11, .int .i64 c12, .bool c13, .bool c14, .int .i64 c15, .int .i64 c16, .int .i64 c17, .int .i64 c18, .int .i64 c19, .int .i64 c20, .int .i64 c21, .bool c22] := Blk.new _ _ _
  have hg := gb_alloc (gb_refl w none) (.cells #[.int .u64 c0, .int .i64 c1, .int .i64 c2, .int .i64 c3, .int .i64 c4, .int .i64 c5, .int .i64 c6, .int .i64 c7, .bool c8, .int .i64 c9, .int .i64 c10, .int .i64 c11, .int .i64 c12, .bool c13, .bool c14, .int .i64 c15, .int .i64 c16, .int .i64 c17, .int .i64 c18, .int .i64 c19, .int .i64 c20, .int .i64 c21, .bool c22] 36)
  generalize w.alloc (.cells #[.int .u64 c0, .int .i64 c1, .int .i64 c2, .int .i64 c3, .int .i64 c4, .int .i64 c5, .int .i64 c6, .int .i64 c7, .bool c8, .int .i64 c9, .int .i64 c10, .int .i64 c11, .int .i64 c12, .bool c13, .bool c14, .int .i64 c15, .int .i64 c16, .int .i64 c17, .int .i64 c18, .int .i64 c19, .int .i64 c20, .int .i64 c21, .bool c22] 36) = wa at *
  go_wp2_with (((with_reducible refine gate_op (.load 36 (.tmp 2)) rfl ?_); go_must (refine wpList_load_mid rfl 36 (.tmp 2) rfl w.heap.size 0 rfl [.int .u64 c0, .int .i64 c1, .int .i64 c2, .int .i64 c3, .int .i64 c4, .int .i64 c5, .int .i64 c6, .int .i64 c7, .bool c8, .int .i64 c9, .int .i64 c10, .int .i64 c11, .int .i64 c12, .bool c13, .bool c14, .int .i64 c15, .int .i64 c16, .int .i64 c17, .int .i64 c18, .int .i64 c19, .int .i64 c20, .int .i64 c21, .bool c22] _ (Blk.range hA) Try.underlying36 rfl Try.siz36 ?_)))
  refine (own_any c0 c1 c2 c3 c4 c5 c6 c7 c8 c9 c10 c11 c12 c13 c14 c15 c16 c17 c18 c19 c20 c21 c22 _).mono ?_
  rintro e w2 ⟨rfl, hg2⟩
  have hA2 := Blk.other hA hg2 (by simp)
  replace hg2 := gb_trans hg hg2
  clear hA hg
  go_wp2_with fail
  have hA3 := Blk.alloc hA2 (.cells #[.int .u64 c0, .int .i64 0, .int .u64 c0, .int .i64 c5, .int .i64 c6, .int .i64 c7, .int .i64 c3, .int .i64 c4, .int .i64 0, .int .i64 c19, .int .i64 c20, .int .i64 c21] 42)
  have hP3 : Blk (w2.alloc (.cells #[.int .u64 c0, .int .i64 0, .int .u64 c0, .int .i64 c5, .int .i64 c6, .int .i64 c7, .int .i64 c3, .int .i64 c4, .int .i64 0, .int .i64 c19, .int .i64 c20, .int .i64 c21] 42)) w2.heap.size 42 #[.int .u64 c0, .int .i64 0, .int .u64 c0, .int .i64 c5, .int .i64 c6, .int .i64 c7, .int .i64 c3, .int .i64 c4, .int .i64 0, .int .i64 c19, .int .i64 c20, .int .i64 c21] := Blk.new _ _ _
  have hg3 := gb_alloc hg2 (.cells #[.int .u64 c0, .int .i64 0, .int .u64 c0, .int .i64 c5, .int .i64 c6, .int .i64 c7, .int .i64 c3, .int .i64 c4, .int .i64 0, .int .i64 c19, .int .i64 c20, .int .i64 c21] 42)
  have hlt := Blk.lt hA2
  clear hA2 hg2
  generalize w2.alloc (.cells #[.int .u64 c0, .int .i64 0, .int .u64 c0, .int .i64 c5, .int .i64 c6, .int .i64 c7, .int .i64 c3, .int .i64 c4, .int .i64 0, .int .i64 c19, .int .i64 c20, .int .i64 c21] 42) = w3 at *
  generalize w2.heap.size = bp at *
  go_loopw [6] (fun i wr => ∃ (n : Nat) (k0 p0 p1 j : Int), i = .int .i64 j ∧ j = n ∧ n ≤ len1 ∧ n ≤ 20 ∧ Blk wr w.heap.size 36 #[.int .u64 k0, .int .i64 c1, .int .i64 c2, .int .i64 c3, .int .i64 c4, .int .i64 c5, .int .i64 c6, .int .i64 c7, .bool c8, .int .i64 c9, .int .i64 c10, .int .i64 c11, .int .i64 c12, .bool c13, .bool c14, .int .i64 c15, .int .i64 c16, .int .i64 c17, .int .i64 c18, .int .i64 c19, .int .i64 c20, .int .i64 c21, .bool c22] ∧ Blk wr bp 42 #[.int .u64 p0, .int .i64 p1, .int .u64 c0, .int .i64 c5, .int .i64 c6, .int .i64 c7, .int .i64 c3, .int .i64 c4, .int .i64 j, .int .i64 c19, .int .i64 c20, .int .i64 c21] ∧ w.grownBy wr none) (fun i _ => 20 - (intOf i).toNat)
  case atStart => exact ⟨0, c0, c0, 0, 0, rfl, rfl, by omega, by omega, hA3, hP3, hg3⟩
  case round =>
    clear hA3 hP3 hg3
    obtain ⟨n, k0, p0, p1, j, rfl, hjn, hn, hn20, hA, hP, hg⟩ := hrel
    have j0 : 0 ≤ j := by omega
    have j1 : j ≤ 20 := by omega
    have HJN := hide hjn
    clear hjn
    obtain ⟨wo, rfl⟩ : ∃ wo : World, wo = wr := ⟨_, rfl⟩
    by_cases hc : n < len1 ∧ n < 20
    · have c1' : j < (len1 : Int) := by have := HJN.out; omega
      have c2' : j < 20 := by have := HJN.out; omega
      obtain ⟨bz, oz, rfl, hlz, hbz, hRow⟩ := row_open w1 (by omega)
      have HRow := hide hRow
      clear hRow
      go_wp2_with (first | ((with_reducible refine gate_op (.load 36 (.tmp 2)) rfl ?_); go_must (refine wpList_load_mid rfl 36 (.tmp 2) rfl w.heap.size 0 rfl [.int .u64 k0, .int .i64 c1, .int .i64 c2, .int .i64 c3, .int .i64 c4, .int .i64 c5, .int .i64 c6, .int .i64 c7, .bool c8, .int .i64 c9, .int .i64 c10, .int .i64 c11, .int .i64 c12, .bool c13, .bool c14, .int .i64 c15, .int .i64 c16, .int .i64 c17, .int .i64 c18, .int .i64 c19, .int .i64 c20, .int .i64 c21, .bool c22] _ (Blk.range hA) Try.underlying36 rfl Try.siz36 ?_)) | ((with_reducible refine gate_op (.load 42 (.tmp 5)) rfl ?_); go_must (refine wpList_load_mid rfl 42 (.tmp 5) rfl bp 0 rfl [.int .u64 p0, .int .i64 p1, .int .u64 c0, .int .i64 c5, .int .i64 c6, .int .i64 c7, .int .i64 c3, .int .i64 c4, .int .i64 j, .int .i64 c19, .int .i64 c20, .int .i64 c21] _ (Blk.range hP) Try.underlying42 rfl Try.siz42 ?_)))
      refine (say_any k0 c1 c2 c3 c4 c5 c6 c7 c8 c9 c10 c11 c12 c13 c14 c15 c16 c17 c18 c19 c20 c21 c22 p0 p1 c0 c5 c6 c7 c3 c4 j c19 c20 c21 1 j _).mono ?_
      rintro e w4 ⟨rfl, hg4⟩
      have hA4 := Blk.other hA hg4 (by simp)
      have hP4 := Blk.other hP hg4 (by simp)
      replace hg4 := gb_trans hg hg4
      clear hA hP hg
      go_wp2_with (((with_reducible refine gate_op (.store 46 (.tmp 7) (.tmp 25)) rfl ?_); go_must (refine wpList_store_row rfl 46 (.tmp 7) (.tmp 25) rfl w4.heap.size #[.int .i64 11, .int .i64 c2, .int .i64 c20, .int .i64 0, .int .u64 k0, .int .i64 1, .int .i64 j, .int .i64 c9, .int .i64 0, .int .u64 0, .int .i64 0, .int .i64 c19, .int .i64 c3, .int .i64 c5, .int .i64 c6, .int .i64 c7, .int .i64 c4, .int .u64 c0, .int .i64 j, .int .i64 c21, .int .i64 0, .int .i64 0, .int .i64 0] ?q1 ?q2 46 #[.int .i64 0, .int .i64 0, .int .i64 0, .int .i64 0, .int .u64 0, .int .i64 0, .int .i64 0, .int .i64 0, .int .i64 0, .int .u64 0, .int .i64 0, .int .i64 0, .int .i64 0, .int .i64 0, .int .i64 0, .int .i64 0, .int .i64 0, .int .u64 0, .int .i64 0, .int .i64 0, .int .i64 0, .int .i64 0, .int .i64 0] ?q0 (by kernel_rfl) ?q3 ?q4 ?_)))
      case q1 => rfl
      case q2 => rfl
      case q0 => exact Blk.new w4 46 _
      case q3 => rfl
      case q4 => simp [Value.oneCell']
      have hW := with_row2 w4 46 #[.int .i64 0, .int .i64 0, .int .i64 0, .int .i64 0, .int .u64 0, .int .i64 0, .int .i64 0, .int .i64 0, .int .i64 0, .int .u64 0, .int .i64 0, .int .i64 0, .int .i64 0, .int .i64 0, .int .i64 0, .int .i64 0, .int .i64 0, .int .u64 0, .int .i64 0, .int .i64 0, .int .i64 0, .int .i64 0, .int .i64 0] #[.int .i64 11, .int .i64 c2, .int .i64 c20, .int .i64 0, .int .u64 k0, .int .i64 1, .int .i64 j, .int .i64 c9, .int .i64 0, .int .u64 0, .int .i64 0, .int .i64 c19, .int .i64 c3, .int .i64 c5, .int .i64 c6, .int .i64 c7, .int .i64 c4, .int .u64 c0, .int .i64 j, .int .i64 c21, .int .i64 0, .int .i64 0, .int .i64 0]
      generalize (w4.alloc (.cells #[.int .i64 0, .int .i64 0, .int .i64 0, .int .i64 0, .int .u64 0, .int .i64 0, .int .i64 0, .int .i64 0, .int .i64 0, .int .u64 0, .int .i64 0, .int .i64 0, .int .i64 0, .int .i64 0, .int .i64 0, .int .i64 0, .int .i64 0, .int .u64 0, .int .i64 0, .int .i64 0, .int .i64 0, .int .i64 0, .int .i64 0] 46)).setRow w4.heap.size #[.int .i64 11, .int .i64 c2, .int .i64 c20, .int .i64 0, .int .u64 k0, .int .i64 1, .int .i64 j, .int .i64 c9, .int .i64 0, .int .u64 0, .int .i64 0, .int .i64 c19, .int .i64 c3, .int .i64 c5, .int .i64 c6, .int .i64 c7, .int .i64 c4, .int .u64 c0, .int .i64 j, .int .i64 c21, .int .i64 0, .int .i64 0, .int .i64 0] = w5 at *
      obtain ⟨hM5, hgw⟩ := hW
      have hA5 := Blk.other hA4 hgw (by simp)
      have hP5 := Blk.other hP4 hgw (by simp)
      have hg5 := gb_trans hg4 hgw
      have hlt4 := Blk.lt hP4
      clear hA4 hP4 hg4 hgw
      generalize w4.heap.size = bm at *
      obtain ⟨id, hid⟩ : ∃ id, z1.getD n 0 = id := ⟨_, rfl⟩
      have hz5 := ((HRow.out.kept hg5) n (by omega)).1
      rw [hid] at hz5
      have hbz5 : bz < w5.heap.size := Nat.lt_of_lt_of_le hbz hg5.size
      have hbm5 := Blk.lt hM5
      have HID := hide hid
      clear hid
      show Code.wp _ _ _ _ _
      rw [show ∀ a : Act, a.put none undef = a from fun _ => rfl]
      have m4 : w5.cell? ⟨bm, 4, none⟩ = some (.int .u64 k0) := Blk.cell hM5 4
      have m5 : w5.cell? ⟨bm, 5, none⟩ = some (.int .i64 1) := Blk.cell hM5 5
      have m12 : w5.cell? ⟨bm, 12, none⟩ = some (.int .i64 c3) := Blk.cell hM5 12
      have m13 : w5.cell? ⟨bm, 13, none⟩ = some (.int .i64 c5) := Blk.cell hM5 13
      have m14 : w5.cell? ⟨bm, 14, none⟩ = some (.int .i64 c6) := Blk.cell hM5 14
      have m15 : w5.cell? ⟨bm, 15, none⟩ = some (.int .i64 c7) := Blk.cell hM5 15
      have m16 : w5.cell? ⟨bm, 16, none⟩ = some (.int .i64 c4) := Blk.cell hM5 16
      have m17 : w5.cell? ⟨bm, 17, none⟩ = some (.int .u64 c0) := Blk.cell hM5 17
      have m18 : w5.cell? ⟨bm, 18, none⟩ = some (.int .i64 j) := Blk.cell hM5 18
      have hne1 : w5.heap.size ≠ bm := by omega
      have hne2 : w5.heap.size ≠ bz := by omega
      have cj0 : (0 : Int) ≤ j := j0
      have HS5 := hide (And.intro hA5 (And.intro hP5 (And.intro hM5 hg5)))
      have hjN : j.toNat = n := by have := HJN.out; omega
      clear hA5 hP5 hM5 hg5
      have hz6 : w5.cell? ⟨bz, oz + j.toNat, none⟩ = some (.int .u64 id) := by rw [hjN]; exact hz5
      have HZ5 := hide hz5
      clear hz5 hjN
      go_region_held3 (fun w' => w'.cell? ⟨bm, 4, none⟩ = some (.int .u64 k0) ∧ w'.cell? ⟨bm, 5, none⟩ = some (.int .i64 1) ∧ w'.cell? ⟨bm, 12, none⟩ = some (.int .i64 c3) ∧ w'.cell? ⟨bm, 13, none⟩ = some (.int .i64 c5) ∧ w'.cell? ⟨bm, 14, none⟩ = some (.int .i64 c6) ∧ w'.cell? ⟨bm, 15, none⟩ = some (.int .i64 c7) ∧ w'.cell? ⟨bm, 16, none⟩ = some (.int .i64 c4) ∧ w'.cell? ⟨bm, 17, none⟩ = some (.int .u64 c0) ∧ w'.cell? ⟨bm, 18, none⟩ = some (.int .i64 j) ∧ w'.cell? ⟨bz, oz + j.toNat, none⟩ = some (.int .u64 id)) (go_keep) (fail)
      clear m4 m5 m12 m13 m14 m15 m16 m17 m18
      obtain ⟨hA5, hP5, hM5, hg5⟩ := HS5.out
      have hV6 : Blk (w5.alloc (.cells #[.int .i64 c3, .int .i64 c5, .int .i64 c6, .int .i64 c7, .int .i64 c4, .int .u64 c0, .int .i64 j, .int .u64 k0, .int .i64 1, .int .u64 id, .int .i64 1] 40)).drew w5.heap.size 40 #[.int .i64 c3, .int .i64 c5, .int .i64 c6, .int .i64 c7, .int .i64 c4, .int .u64 c0, .int .i64 j, .int .u64 k0, .int .i64 1, .int .u64 id, .int .i64 1] := Blk.drew (Blk.new _ _ _)
      have hA6 := Blk.drew (Blk.alloc hA5 (.cells #[.int .i64 c3, .int .i64 c5, .int .i64 c6, .int .i64 c7, .int .i64 c4, .int .u64 c0, .int .i64 j, .int .u64 k0, .int .i64 1, .int .u64 id, .int .i64 1] 40))
      have hP6 := Blk.drew (Blk.alloc hP5 (.cells #[.int .i64 c3, .int .i64 c5, .int .i64 c6, .int .i64 c7, .int .i64 c4, .int .u64 c0, .int .i64 j, .int .u64 k0, .int .i64 1, .int .u64 id, .int .i64 1] 40))
      have hM6 := Blk.drew (Blk.alloc hM5 (.cells #[.int .i64 c3, .int .i64 c5, .int .i64 c6, .int .i64 c7, .int .i64 c4, .int .u64 c0, .int .i64 j, .int .u64 k0, .int .i64 1, .int .u64 id, .int .i64 1] 40))
      have hg6 := gb_drew (gb_alloc hg5 (.cells #[.int .i64 c3, .int .i64 c5, .int .i64 c6, .int .i64 c7, .int .i64 c4, .int .u64 c0, .int .i64 j, .int .u64 k0, .int .i64 1, .int .u64 id, .int .i64 1] 40))
      clear hA5 hP5 hM5 hg5 HS5 hz6 hne1 hne2
      generalize (w5.alloc (.cells #[.int .i64 c3, .int .i64 c5, .int .i64 c6, .int .i64 c7, .int .i64 c4, .int .u64 c0, .int .i64 j, .int .u64 k0, .int .i64 1, .int .u64 id, .int .i64 1] 40)).drew = w6 at *
      have m2 : w6.cell? ⟨bm, 2, none⟩ = some (.int .i64 c20) := Blk.cell hM6 2
      have m11 : w6.cell? ⟨bm, 11, none⟩ = some (.int .i64 c19) := Blk.cell hM6 11
      have m19 : w6.cell? ⟨bm, 19, none⟩ = some (.int .i64 c21) := Blk.cell hM6 19
      go_wp2_with (((with_reducible refine gate_op (.load 40 (.tmp 8)) rfl ?_); go_must (refine wpList_load_mid rfl 40 (.tmp 8) rfl w5.heap.size 0 rfl [.int .i64 c3, .int .i64 c5, .int .i64 c6, .int .i64 c7, .int .i64 c4, .int .u64 c0, .int .i64 j, .int .u64 k0, .int .i64 1, .int .u64 id, .int .i64 1] _ (Blk.range hV6) Try.underlying40 rfl Try.siz40 ?_)))
      refine (follow_any c3 c5 c6 c7 c4 c0 j k0 1 id 1 c19 c20 c21 _).mono ?_
      rintro e w7 ⟨rfl, hg7⟩
      rw [wrap_succ j0 (by omega)]
      have hA7 := Blk.other hA6 hg7 (by simp)
      have hP7 := Blk.other hP6 hg7 (by simp)
      have hM7 := Blk.other hM6 hg7 (by simp)
      replace hg7 := gb_trans hg6 hg7
      clear hA6 hP6 hM6 hV6 hg6 m2 m11 m19
      go_upto_region 8 with (fail)
      have hQ8 : Blk (w7.alloc (.cells #[.int .u64 k0, .int .i64 1, .int .u64 c0, .int .i64 c5, .int .i64 c6, .int .i64 c7, .int .i64 c3, .int .i64 c4, .int .i64 (j + 1), .int .i64 c19, .int .i64 c20, .int .i64 c21] 42)) w7.heap.size 42 #[.int .u64 k0, .int .i64 1, .int .u64 c0, .int .i64 c5, .int .i64 c6, .int .i64 c7, .int .i64 c3, .int .i64 c4, .int .i64 (j + 1), .int .i64 c19, .int .i64 c20, .int .i64 c21] := Blk.new _ _ _
      have hA8 := Blk.alloc hA7 (.cells #[.int .u64 k0, .int .i64 1, .int .u64 c0, .int .i64 c5, .int .i64 c6, .int .i64 c7, .int .i64 c3, .int .i64 c4, .int .i64 (j + 1), .int .i64 c19, .int .i64 c20, .int .i64 c21] 42)
      have hP8 := Blk.alloc hP7 (.cells #[.int .u64 k0, .int .i64 1, .int .u64 c0, .int .i64 c5, .int .i64 c6, .int .i64 c7, .int .i64 c3, .int .i64 c4, .int .i64 (j + 1), .int .i64 c19, .int .i64 c20, .int .i64 c21] 42)
      have hM8 := Blk.alloc hM7 (.cells #[.int .u64 k0, .int .i64 1, .int .u64 c0, .int .i64 c5, .int .i64 c6, .int .i64 c7, .int .i64 c3, .int .i64 c4, .int .i64 (j + 1), .int .i64 c19, .int .i64 c20, .int .i64 c21] 42)
      have hg8 := gb_alloc hg7 (.cells #[.int .u64 k0, .int .i64 1, .int .u64 c0, .int .i64 c5, .int .i64 c6, .int .i64 c7, .int .i64 c3, .int .i64 c4, .int .i64 (j + 1), .int .i64 c19, .int .i64 c20, .int .i64 c21] 42)
      have hbq := Blk.lt hP7
      clear hA7 hP7 hM7 hg7
      generalize w7.alloc (.cells #[.int .u64 k0, .int .i64 1, .int .u64 c0, .int .i64 c5, .int .i64 c6, .int .i64 c7, .int .i64 c3, .int .i64 c4, .int .i64 (j + 1), .int .i64 c19, .int .i64 c20, .int .i64 c21] 42) = w8 at *
      generalize w7.heap.size = bq at *
      have m4 : w8.cell? ⟨bm, 4, none⟩ = some (.int .u64 k0) := Blk.cell hM8 4
      have m5 : w8.cell? ⟨bm, 5, none⟩ = some (.int .i64 1) := Blk.cell hM8 5
      have q0 : w8.cell? ⟨bq, 0, none⟩ = some (.int .u64 k0) := Blk.cell hQ8 0
      have q1 : w8.cell? ⟨bq, 1, none⟩ = some (.int .i64 1) := Blk.cell hQ8 1
      have q2 : w8.cell? ⟨bq, 2, none⟩ = some (.int .u64 c0) := Blk.cell hQ8 2
      have q3 : w8.cell? ⟨bq, 3, none⟩ = some (.int .i64 c5) := Blk.cell hQ8 3
      have q4 : w8.cell? ⟨bq, 4, none⟩ = some (.int .i64 c6) := Blk.cell hQ8 4
      have q5 : w8.cell? ⟨bq, 5, none⟩ = some (.int .i64 c7) := Blk.cell hQ8 5
      have q6 : w8.cell? ⟨bq, 6, none⟩ = some (.int .i64 c3) := Blk.cell hQ8 6
      have q7 : w8.cell? ⟨bq, 7, none⟩ = some (.int .i64 c4) := Blk.cell hQ8 7
      have q8 : w8.cell? ⟨bq, 8, none⟩ = some (.int .i64 (j + 1)) := Blk.cell hQ8 8
      have q9 : w8.cell? ⟨bq, 9, none⟩ = some (.int .i64 c19) := Blk.cell hQ8 9
      have q10 : w8.cell? ⟨bq, 10, none⟩ = some (.int .i64 c20) := Blk.cell hQ8 10
      have q11 : w8.cell? ⟨bq, 11, none⟩ = some (.int .i64 c21) := Blk.cell hQ8 11
      have p_2 : w8.cell? ⟨bp, 2, none⟩ = some (.int .u64 c0) := Blk.cell hP8 2
      have p_3 : w8.cell? ⟨bp, 3, none⟩ = some (.int .i64 c5) := Blk.cell hP8 3
      have p_4 : w8.cell? ⟨bp, 4, none⟩ = some (.int .i64 c6) := Blk.cell hP8 4
      have p_5 : w8.cell? ⟨bp, 5, none⟩ = some (.int .i64 c7) := Blk.cell hP8 5
      have p_6 : w8.cell? ⟨bp, 6, none⟩ = some (.int .i64 c3) := Blk.cell hP8 6
      have p_7 : w8.cell? ⟨bp, 7, none⟩ = some (.int .i64 c4) := Blk.cell hP8 7
      have p_8 : w8.cell? ⟨bp, 8, none⟩ = some (.int .i64 j) := Blk.cell hP8 8
      have p_9 : w8.cell? ⟨bp, 9, none⟩ = some (.int .i64 c19) := Blk.cell hP8 9
      have p_10 : w8.cell? ⟨bp, 10, none⟩ = some (.int .i64 c20) := Blk.cell hP8 10
      have p_11 : w8.cell? ⟨bp, 11, none⟩ = some (.int .i64 c21) := Blk.cell hP8 11
      go_upto_region 11 with (first | ((with_reducible refine gate_op (.load 42 (.tmp 9)) rfl ?_); go_must (refine wpList_load_mid rfl 42 (.tmp 9) rfl bq 0 rfl [.int .u64 k0, .int .i64 1, .int .u64 c0, .int .i64 c5, .int .i64 c6, .int .i64 c7, .int .i64 c3, .int .i64 c4, .int .i64 (j + 1), .int .i64 c19, .int .i64 c20, .int .i64 c21] _ (Blk.range hQ8) Try.underlying42 rfl Try.siz42 ?_)) | ((with_reducible refine gate_op (.store 42 (.tmp 5) (.tmp 101)) rfl ?_); go_must (refine wpList_store_row rfl 42 (.tmp 5) (.tmp 101) rfl bp #[.int .u64 k0, .int .i64 1, .int .u64 c0, .int .i64 c5, .int .i64 c6, .int .i64 c7, .int .i64 c3, .int .i64 c4, .int .i64 (j + 1), .int .i64 c19, .int .i64 c20, .int .i64 c21] ?r1 ?r2 42 #[.int .u64 p0, .int .i64 p1, .int .u64 c0, .int .i64 c5, .int .i64 c6, .int .i64 c7, .int .i64 c3, .int .i64 c4, .int .i64 j, .int .i64 c19, .int .i64 c20, .int .i64 c21] ?r0 (by kernel_rfl) ?r3 ?r4 ?_)))
      case r0 => exact hP8
      case r3 => rfl
      case r4 => simp [Value.oneCell']
      have hP9 := Blk.setRow hP8 #[.int .u64 k0, .int .i64 1, .int .u64 c0, .int .i64 c5, .int .i64 c6, .int .i64 c7, .int .i64 c3, .int .i64 c4, .int .i64 (j + 1), .int .i64 c19, .int .i64 c20, .int .i64 c21]
      have hA9 := Blk.other hA8 (gb_row w8 bp #[.int .u64 k0, .int .i64 1, .int .u64 c0, .int .i64 c5, .int .i64 c6, .int .i64 c7, .int .i64 c3, .int .i64 c4, .int .i64 (j + 1), .int .i64 c19, .int .i64 c20, .int .i64 c21]) (by simp; omega)
      have hg9 := gb_setRow hg8 (Nat.le_of_lt hlt) #[.int .u64 k0, .int .i64 1, .int .u64 c0, .int .i64 c5, .int .i64 c6, .int .i64 c7, .int .i64 c3, .int .i64 c4, .int .i64 (j + 1), .int .i64 c19, .int .i64 c20, .int .i64 c21]
      clear hP8 hA8 hM8 hQ8 hg8 m4 m5 q0 q1 q2 q3 q4 q5 q6 q7 q8 q9 q10 q11 p_2 p_3 p_4 p_5 p_6 p_7 p_8 p_9 p_10 p_11
      generalize w8.setRow bp #[.int .u64 k0, .int .i64 1, .int .u64 c0, .int .i64 c5, .int .i64 c6, .int .i64 c7, .int .i64 c3, .int .i64 c4, .int .i64 (j + 1), .int .i64 c19, .int .i64 c20, .int .i64 c21] = w9 at *
      have a0 : w9.cell? ⟨w.heap.size, 0, none⟩ = some (.int .u64 k0) := Blk.cell hA9 0
      have f0 : w9.frozen? ⟨w.heap.size, 0, none⟩ = false := Blk.free hA9 0
      have hjN : j.toNat = n := by have := HJN.out; omega
      have hz9 : w9.cell? ⟨bz, oz + j.toNat, none⟩ = some (.int .u64 id) := by
        have := ((HRow.out.kept hg9) n (by omega)).1
        rw [HID.out] at this
        rw [hjN]; exact this
      clear hjN
      show Code.wp _ _ _ _ _
      rw [show ∀ a : Act, a.put none undef = a from fun _ => rfl]
      go_wp2_with fail
      have hA10 := Blk.set hA9 0 (.int .u64 id)
      have hg10 := gb_young hg9 (gb_set (gb_refl w9 (some w.heap.size)) 0 (.int .u64 id)) (Nat.le_refl _)
      have hP10 := Blk.other hP9 (gb_set (gb_refl w9 (some w.heap.size)) 0 (.int .u64 id)) (by simp; omega)
      exact ⟨⟨n + 1, id, k0, 1, j + 1, rfl, by have := HJN.out; omega, by omega, by omega, hA10, hP10, hg10⟩, by simp [intOf]; omega⟩
    · have hmm : min (len1 : Int) 20 = j := by have := HJN.out; omega
      have p_8 : wo.cell? ⟨bp, 8, none⟩ = some (.int .i64 j) := Blk.cell hP 8
      have HA := hide hA
      have HP := hide hP
      clear hA hP
      by_cases hlt1 : j < (len1 : Int)
      · have e20 : ¬ j < 20 := by have := HJN.out; omega
        go_wp2_with fail
        refine (awake_any _).mono ?_
        rintro e w4 ⟨rfl, hg4⟩
        go_wp2_with fail
        go_ret
        exact ⟨rfl, below_of_gb (gb_trans hg hg4)⟩
      · go_wp2_with fail
        refine (awake_any _).mono ?_
        rintro e w4 ⟨rfl, hg4⟩
        go_wp2_with fail
        go_ret
        exact ⟨rfl, below_of_gb (gb_trans hg hg4)⟩
end Go.Proofs.Ytabibaamlhchbaa
