/- Take of the first; of none. -/
import Derived.Test.YteddhpkbojlimaaLk4
import Derived.Laws.CopyRow
namespace Go.Proofs.Yteddhpkbojlimaa
open Go.RowKit
attribute [local go_sem] max_two min_two max2_max min2_min
attribute [local go_sem ↓] Go.wp_at_zero Go.wp_at_succ

theorem run_copy_two {P : Program} (w : World) (dT sT ty elem : TypeId) (g o dLen dCap : Nat) (a : Addr) (sLen sCap n : Nat) (cur : Array Value) (t : TypeId) (cs : List Value)
    (hu : P.underlying dT = some (.slice elem)) (hs : (P.info? elem).map (·.size) = some 2)
    (hg : w.heap[g]? = some (.cells cur t (0, 0))) (hn : n = Nat.min sLen dLen) (hcs : cs.length = n * 2)
    (hsrc : ∀ j v, cs[j]? = some v → w.cell? (a.add j) = some v) (hfit : o + cs.length ≤ cur.size) (h1 : ∀ v ∈ cs, v.oneCell' = true) :
    (Builtin.copy_ #[dT, sT] ty #[.slice (some ⟨g, o, none⟩) dLen dCap, .slice (some a) sLen sCap]).run P w =
      .ok (goInt n) (w.setRow g (cur.toList.take o ++ cs ++ cur.toList.drop (o + cs.length)).toArray) := by
  have hl := run_loadCells_list (P := P) w a cs hsrc
  have hst := run_storeCells_at P g o t cs 0 cur w hg (by simpa using hfit) h1
  rw [hcs] at hl
  cases hq : P.info? elem with
  | none => simp [hq] at hs
  | some i =>
    have hi : i.size = 2 := by simpa [hq] using hs
    simp [Builtin.copy_, run_underlying hu, Builtin.lenOf, Builtin.firstCells, sizeOf, typeInfo, hq, hi, ← hn, hl, hst]

theorem Try.size41 : (Try.prog.info? 41).map (·.size) = some 2 := by kernel_rfl

theorem take_none (b base : Nat) (lost : Int) (i : Int) (w : World) (hb : LkAt w b base [] lost) :
    Calls Try.prog 16 #[.pointer (some ⟨b, 0, none⟩), .int .i64 i] w fun e w' => e = .returned (.tuple #[.int .i64 0, .string { data := #[] }, .bool false]) ∧ w = w' := by
  have H := hide (look_out b base [] lost i w hb (by simp; omega))
  go_enter Try.func16, Try.ntmps16
  go_wp2_with fail
  refine H.out.mono ?_
  rintro e w' ⟨rfl, rfl⟩
  go_wp2_with fail
  refine bodyPost_ret (v := .tuple #[.int .i64 0, .string { data := #[] }, .bool false]) (by simp [results, Try.results16, go_sem]) rfl ⟨rfl, rfl⟩

theorem take_end {w w5 : World} {b base m h : Nat} {A : Option Addr} {c n : Nat} {rest : List (Int × ByteArray)} {lost : Int} (hB5 : Blk w5 b 39 #[.slice A n c, .int .i64 lost])
    (hR : Blk w5 h 41 (flat rest).toArray) (hn : rest.length = m) (hm : m ≤ 1000) (hbh : base ≤ h) (hg : w.grownBy w5 none) :
    LkAt (w5.setCell ⟨b, 0, none⟩ (.slice (some ⟨h, 0, none⟩) m m)) b base rest lost ∧ w.grownBy (w5.setCell ⟨b, 0, none⟩ (.slice (some ⟨h, 0, none⟩) m m)) (some b) := by
  have h1 := gb_set (gb_refl w5 (some b)) 0 (.slice (some ⟨h, 0, none⟩) m m)
  have ho : w5.ownsRow base 41 2 (.slice (some ⟨h, 0, none⟩) m m) m (flat rest) := by
    refine ⟨by rw [flat_length, hn], .inr ⟨h, m, _, rfl, hbh, hR, Nat.le_refl _, by unfold maxLen; omega, by rw [List.size_toArray, flat_length, hn], ?_⟩⟩
    rw [List.take_of_length_le (by show (flat rest).length ≤ m * 2; rw [flat_length, hn]; exact Nat.le_refl _)]
  refine ⟨⟨some ⟨h, 0, none⟩, m, ?_, ?_⟩, gb_trans (gb_any hg) h1⟩
  · rw [hn]
    exact Blk.set hB5 0 _
  · rw [hn]
    exact ho.kept h1 (.inr (own_ne_blk ho hB5 (by decide)))

set_option maxHeartbeats 2000000 in
theorem take_first (b base : Nat) (x : Int × ByteArray) (rest : List (Int × ByteArray)) (lost : Int) (w : World) (hb : LkAt w b base (x :: rest) lost) (hq : rest.length ≤ 100) (hbase : base ≤ w.heap.size) :
    Calls Try.prog 16 #[.pointer (some ⟨b, 0, none⟩), .int .i64 0] w fun e w' => e = .returned (.tuple #[.int .i64 x.1, .string x.2, .bool true]) ∧ LkAt w' b base rest lost ∧ w.grownBy w' (some b) := by
  have H := hide (look_in b base (x :: rest) lost 0 x w hb rfl (by simp; omega))
  obtain ⟨A, c, hB, ho⟩ := hb
  obtain ⟨m, hm⟩ : ∃ m, rest.length = m := ⟨_, rfl⟩
  rw [List.length_cons, hm] at hB ho
  have hle := (own_le ho).1
  obtain ⟨g, rfl⟩ := own_addr ho (by omega)
  have HM := hide hm
  have HB := hide hB
  have HO := hide ho
  obtain ⟨i, hi, hz, hs, hby⟩ := info_parts Try.info41
  have II := hide (And.intro hi (And.intro hz (And.intro hs hby)))
  rw [hm] at hq
  have mq : (m : Int) ≤ 100 := by omega
  clear hi hz hs hby hm hB ho
  go_enter Try.func16, Try.ntmps16
  go_wp2_with fail
  refine H.out.mono ?_
  rintro e w' ⟨rfl, n, rfl⟩
  have hB1 : Blk (w.drewN n) b 39 #[.slice (some ⟨g, 0, none⟩) (m + 1) c, .int .i64 lost] := Blk.drewN HB.out n
  have hO1 := own_kept HO.out (gb_drewN (gb_refl w none) n)
  have hg1 := gb_drewN (gb_refl w none) n
  have HGS : Hid (w.heap.size ≤ (w.drewN n).heap.size) := hide hg1.size
  have hb1 : base ≤ (w.drewN n).heap.size := hbase
  generalize w.drewN n = w1 at *
  have hc1 : w1.cell? ⟨b, 0, none⟩ = some (.slice (some ⟨g, 0, none⟩) (m + 1) c) := Blk.cell hB1 0
  obtain ⟨w2, hmk, hown, hg2⟩ := run_make_full (P := Try.prog) w1 base 37 41 i _ 2 Try.underlying37 II.out.1 II.out.2.1 II.out.2.2.1 .i64 .i64 m (by rw [II.out.2.2.2]; omega) (by unfold maxLen; omega) hb1
  have hc2 := hg2.cell hc1 (by simp)
  have HB2 := hide (Blk.other hB1 hg2 (by simp))
  have HO2 := hide (own_kept hO1 hg2)
  have HG2 := hide (gb_trans hg1 hg2)
  obtain ⟨cur, hcur, hcs⟩ : ∃ cur, Blk w2 w1.heap.size 41 cur ∧ cur.size = m * 2 := by
    rcases hown.2 with ⟨hv, _⟩ | ⟨g2, cap2, cur, hv, _, hh, _, _, hsz, _⟩
    · simp at hv
    · rw [Value.slice.injEq] at hv
      obtain ⟨e1, -, rfl⟩ := hv
      simp at e1
      subst e1
      exact ⟨cur, hh, hsz⟩
  have hcp0 : ∀ ty, (Builtin.copy_ #[37, 37] ty #[.slice (some ⟨w1.heap.size, 0, none⟩) m m, .slice (some ⟨g, 0, none⟩) 0 c]).run Try.prog w2 = .ok (goInt 0) w2 := by
    intro ty
    have h := run_copy_two (P := Try.prog) w2 37 37 ty 41 w1.heap.size 0 m m ⟨g, 0, none⟩ 0 c 0 cur 41 [] Try.underlying37 Try.size41 hcur (by simp) (by simp) (by simp) (by simp) (by simp)
    rw [h]
    simp only [List.take_zero, List.nil_append, List.length_nil, Nat.add_zero, List.drop_zero, Array.toArray_toList]
    rw [setRow_self w2 w1.heap.size cur 41 (0, 0) hcur]
    rfl
  have HCUR := hide hcur
  have HB1S := hide hb1
  have HCS := hide hcs
  clear hown hg1 hg2 hB1 hO1 hcur hb1 hcs
  have b0 : (0 : Int) ≤ (c : Int) := by omega
  have b1 : (m : Int) + 1 ≤ (c : Int) := by omega
  have hcp : ∀ (ad : Addr) (sc dc : Nat), (∀ j v, (flat rest)[j]? = some v → w2.drew.cell? (ad.add j) = some v) → ∀ ty, (Builtin.copy_ #[37, 37] ty #[.slice (some ⟨w1.heap.size, 0, none⟩) m dc, .slice (some ad) m sc]).run Try.prog w2.drew = .ok (.int .i64 m) (w2.drew.setRow w1.heap.size (flat rest).toArray) := by
    intro ad sc dc hsrc ty
    have h := run_copy_two (P := Try.prog) w2.drew 37 37 ty 41 w1.heap.size 0 m dc ad m sc m cur 41 (flat rest) Try.underlying37 Try.size41 (Blk.drew HCUR.out) (Nat.min_self m).symm (by rw [flat_length, HM.out]) hsrc (by rw [flat_length, HM.out, HCS.out]; omega) (flat_one rest)
    rw [h]
    have e : cur.toList.take 0 ++ flat rest ++ cur.toList.drop (0 + (flat rest).length) = flat rest := by
      rw [List.take_zero, List.nil_append, List.drop_eq_nil_of_le (by rw [flat_length, HM.out, Nat.zero_add, Array.length_toList, HCS.out]; exact Nat.le_refl _), List.append_nil]
    rw [e]
    rfl
  have hsrc2 : ∀ j v, (flat rest)[j]? = some v → w2.drew.cell? ((⟨g, 2, none⟩ : Addr).add j) = some v := by
    intro j v hj
    have hjl : j < (flat rest).length := by
      rcases Nat.lt_or_ge j (flat rest).length with h | h
      · exact h
      · rw [List.getElem?_eq_none h] at hj; cases hj
    rw [flat_length, HM.out] at hjl
    rw [show ((⟨g, 2, none⟩ : Addr).add j) = ⟨g, 2 + j, none⟩ from by unfold Addr.add; split <;> simp_all]
    have := HO2.out.cellAt (2 + j) (by omega)
    rw [show w2.drew.cell? ⟨g, 2 + j, none⟩ = w2.cell? ⟨g, 2 + j, none⟩ from rfl, this, flat_cons, show 2 + j = j + 1 + 1 by omega]
    exact hj
  have hlt : b < w1.heap.size := World.block_lt_of_cell? w1 _ hc1
  have HLT := hide hlt
  have HCP := hide hcp
  have HSRC := hide hsrc2
  clear hcp hsrc2 hlt
  have finish : ∀ w3 : World, w3 = w2.drew.setRow w1.heap.size (flat rest).toArray → w3.cell? ⟨b, 0, none⟩ = some (.slice (some ⟨g, 0, none⟩) (m + 1) c) ∧ w3.frozen? ⟨b, 0, none⟩ = false ∧
      LkAt (w3.setCell ⟨b, 0, none⟩ (.slice (some ⟨w1.heap.size, 0, none⟩) m m)) b base rest lost ∧ w.grownBy (w3.setCell ⟨b, 0, none⟩ (.slice (some ⟨w1.heap.size, 0, none⟩) m m)) (some b) := by
    rintro w3 rfl
    have hgr : w2.drew.grownBy (w2.drew.setRow w1.heap.size (flat rest).toArray) (some w1.heap.size) := ⟨rfl, rfl, rfl, by simp [World.setRow], fun k hk hne => by
      simp only [World.setRow, Array.getElem?_modify]
      rw [if_neg (fun e => hne (by rw [e]))]⟩
    have hB3 : Blk (w2.drew.setRow w1.heap.size (flat rest).toArray) b 39 #[.slice (some ⟨g, 0, none⟩) (m + 1) c, .int .i64 lost] := Blk.other (Blk.drew HB2.out) hgr (fun e => by injection e with e; have := HLT.out; omega)
    have hR3 : Blk (w2.drew.setRow w1.heap.size (flat rest).toArray) w1.heap.size 41 (flat rest).toArray := setRow_heap w2.drew w1.heap.size _ _ 41 (0, 0) (Blk.drew HCUR.out)
    have hg3 : w.grownBy (w2.drew.setRow w1.heap.size (flat rest).toArray) none := gb_young (gb_drew HG2.out) hgr (HGS.out)
    have := take_end hB3 hR3 HM.out (by omega) HB1S.out hg3
    exact ⟨Blk.cell hB3 0, Blk.free hB3 0, this⟩
  have FIN := hide finish
  clear finish
  by_cases hm0 : m = 0
  · have HM0 := hide hm0
    clear hm0
    by_cases hc1' : c = 1
    · subst hc1'
      have hcp1 := HCP.out ⟨g, 0, none⟩ 0 m (fun j v hj => by
        have : rest = [] := List.eq_nil_of_length_eq_zero (HM.out.trans HM0.out)
        subst this
        simp [flat] at hj)
      have hcp2 : ∀ ty, (Builtin.copy_ #[37, 37] ty #[.slice (some ⟨w1.heap.size, 0, none⟩) m m, .slice (some ⟨g, 0, none⟩) 0 0]).run Try.prog w2.drew = .ok (.int .i64 m) (w2.drew.setRow w1.heap.size (flat rest).toArray) := by
        intro ty
        rw [show (.slice (some ⟨g, 0, none⟩) 0 0 : Value) = .slice (some ⟨g, 0, none⟩) m 0 from by rw [HM0.out]]
        exact hcp1 ty
      clear hcp1
      go_wp2_with fail
      go_region
      obtain ⟨f1, f2, f3⟩ := FIN.out _ rfl
      have F3 := hide f3
      clear f3
      generalize w2.drew.setRow w1.heap.size (flat rest).toArray = w3 at *
      go_wp2_with fail
      refine bodyPost_ret (v := .tuple #[.int .i64 x.1, .string x.2, .bool true]) (by simp [results, Try.results16, go_sem]) rfl ⟨rfl, F3.out⟩
    · have hcp1 := HCP.out ⟨g, 2, none⟩ (c - 1) m HSRC.out
      go_wp2_with fail
      go_region
      obtain ⟨f1, f2, f3⟩ := FIN.out _ rfl
      have F3 := hide f3
      clear f3
      generalize w2.drew.setRow w1.heap.size (flat rest).toArray = w3 at *
      go_wp2_with fail
      refine bodyPost_ret (v := .tuple #[.int .i64 x.1, .string x.2, .bool true]) (by simp [results, Try.results16, go_sem]) rfl ⟨rfl, F3.out⟩
  · have hc1' : ¬ c = 1 := by omega
    have hcp1 := HCP.out ⟨g, 2, none⟩ (c - 1) m HSRC.out
    go_wp2_with fail
    go_region
    obtain ⟨f1, f2, f3⟩ := FIN.out _ rfl
    have F3 := hide f3
    clear f3
    generalize w2.drew.setRow w1.heap.size (flat rest).toArray = w3 at *
    go_wp2_with fail
    refine bodyPost_ret (v := .tuple #[.int .i64 x.1, .string x.2, .bool true]) (by simp [results, Try.results16, go_sem]) rfl ⟨rfl, F3.out⟩
end Go.Proofs.Yteddhpkbojlimaa
