/- The document's filter: its block and its slice; contracts. -/
import Derived.Test.YtadabpkfkdbafaaMed4
import Derived.Laws.OwnMore
import Derived.Laws.AppendOwnNone
import Derived.Deep.AppendLies
namespace Go.Proofs.Ytadabpkfkdbafaa
open Go.RowKit
attribute [local go_sem] max_two min_two max2_max min2_min

/-- The document's filter: how many at most, and a slice that lies in a younger block. -/
def RefAt (w : World) (b : Nat) (n : Int) (vals : List Int) : Prop :=
  ∃ v, Blk w b 39 #[.int .i64 n, v] ∧ ((v = .slice none 0 0 ∧ vals = []) ∨
    ∃ g o cap, v = .slice (some ⟨g, o, none⟩) vals.length cap ∧ b < g ∧ g < w.heap.size ∧ 0 < vals.length ∧ vals.length ≤ cap ∧ ∀ i, i < vals.length → w.cell? ⟨g, o + i, none⟩ = some (.int .i64 (vals.getD i 0)))
theorem RefAt.keep {w w' : World} {b : Nat} {n : Int} {vals : List Int} {row : Option Nat} (h : RefAt w b n vals) (hg : w.grownBy w' row) (hne : ∀ r, row = some r → r < b) : RefAt w' b n vals := by
  obtain ⟨v, hb, hv⟩ := h
  refine ⟨v, Blk.other hb hg (fun e => by have := hne b e.symm; omega), ?_⟩
  rcases hv with hv | ⟨g, o, cap, rfl, h1, h2, h3, h4, hc⟩
  · exact .inl hv
  · exact .inr ⟨g, o, cap, rfl, h1, Nat.lt_of_lt_of_le h2 hg.size, h3, h4, fun i hi => hg.cell (hc i hi) (fun e => by have := hne g e.symm; omega)⟩
theorem RefAt.lt {w : World} {b : Nat} {n : Int} {vals : List Int} (h : RefAt w b n vals) : b < w.heap.size := by
  obtain ⟨v, hb, hv⟩ := h
  exact Blk.lt hb

theorem refNew_any (n : Int) (w : World) :
    Calls Try.prog 15 #[.int .i64 n] w fun e w' => e = .returned (.pointer (some ⟨w.heap.size, 0, none⟩)) ∧ RefAt w' w.heap.size (max 1 (min n 15)) [] ∧ w.grownBy w' none := by
  go_enter Try.func15, Try.ntmps15
  go_wp2_with fail
  go_ret
  refine ⟨rfl, ⟨.slice none 0 0, ?_, .inl ⟨rfl, rfl⟩⟩, gb_alloc (gb_refl _ _) _⟩
  rw [show max 1 (min n 15) = min (max n 1) 15 by omega]
  exact Blk.new _ _ _

/-- The list while the newest number goes to its place. -/
def amid (S : List Int) (v : Int) (k : Nat) : List Int := S.take k ++ v :: S.drop k
theorem amid_at (S : List Int) (v : Int) (k : Nat) (hk : k ≤ S.length) : (amid S v k).getD k 0 = v := by
  unfold amid
  rw [List.getD_eq_getElem?_getD, List.getElem?_append_right (by simp; omega)]
  simp [show k - min k S.length = 0 by omega]
theorem amid_len (S : List Int) (v : Int) (k : Nat) (hk : k ≤ S.length) : (amid S v k).length = S.length + 1 := by
  unfold amid
  simp; omega
theorem amid_swap0 (A C : List Int) (x v : Int) : ((amid (A ++ x :: C) v (A.length + 1)).set (A.length + 1) ((A ++ x :: C).getD A.length 0)).set A.length v = amid (A ++ x :: C) v A.length := by
  have e1 : (A ++ x :: C).take (A.length + 1) = A ++ [x] := by
    rw [List.take_append, List.take_of_length_le (by omega)]
    simp
  have e2 : (A ++ x :: C).drop (A.length + 1) = C := by simp [List.drop_append]
  have e3 : (A ++ x :: C).take A.length = A := by simp
  have e4 : (A ++ x :: C).drop A.length = x :: C := by simp
  have e5 : (A ++ x :: C).getD A.length 0 = x := by simp
  unfold amid
  rw [e1, e2, e3, e4, e5, List.append_assoc, List.set_append_right _ _ (by omega), List.set_append_right _ _ (by omega)]
  simp
theorem amid_swap (S : List Int) (v : Int) (k : Nat) (hk : k + 1 ≤ S.length) : ((amid S v (k + 1)).set (k + 1) (S.getD k 0)).set k v = amid S v k := by
  have e : S = S.take k ++ S[k] :: S.drop (k + 1) := by rw [← List.drop_eq_getElem_cons, List.take_append_drop]
  have h := amid_swap0 (S.take k) (S.drop (k + 1)) S[k] v
  rw [← e, List.length_take, Nat.min_eq_left (by omega)] at h
  exact h
theorem amid_prev (S : List Int) (v : Int) (k : Nat) (hk : k + 1 ≤ S.length) : (amid S v (k + 1)).getD k 0 = S.getD k 0 := by
  unfold amid
  rw [List.getD_eq_getElem?_getD, List.getElem?_append_left (by simp; omega), List.getElem?_take, if_pos (by omega), ← List.getD_eq_getElem?_getD]

theorem map_iv_at (l : List Int) (i : Nat) (h : i < l.length) : (l.map iv)[i]? = some (.int .i64 (l.getD i 0)) := by simp [iv, h]
theorem Try.info3' : (Try.prog.info? 3).map (fun i => (i.zero, i.size, i.bytes)) = some (some (.int .i64 0), 1, 8) := by kernel_rfl

set_option maxHeartbeats 4000000 in
set_option maxRecDepth 100000 in
theorem refMedian_any (b : Nat) (n : Int) (vals : List Int) (w : World) (hb : RefAt w b n vals) (hlen : vals.length ≤ 100) :
    Calls Try.prog 18 #[.pointer (some ⟨b, 0, none⟩)] w fun e w' => e = .returned (.tuple #[.int .i64 (if vals = [] then 0 else mid vals), .bool (decide (vals ≠ []))]) ∧ w.grownBy w' none := by
  obtain ⟨v, hB, hv⟩ := hb
  have hc1 : w.cell? ⟨b, 1, none⟩ = some v := Blk.cell hB 1
  rcases hv with ⟨rfl, rfl⟩ | ⟨g, o, cap, rfl, hbg, hgl, hpos, hcap, hcell⟩
  · go_enter Try.func18, Try.ntmps18
    go_wp2_with fail
    go_loopw [4, 5] (fun l i wr => l = .slice none 0 0 ∧ i = .int .i64 0 ∧ wr = w) (fun _ _ _ => 0)
    case atStart => exact ⟨rfl, rfl, rfl⟩
    case round =>
      obtain ⟨rfl, rfl, rfl⟩ := hrel
      go_wp2_with fail
      go_ret2
      exact ⟨rfl, gb_refl _ _⟩
  · obtain ⟨N, hN⟩ : ∃ N, vals.length = N := ⟨_, rfl⟩
    rw [hN] at hc1 hpos hcap hlen hcell
    have HC := hide hcell
    have HN := hide hN
    obtain ⟨iI, hk1, hk2, hk3, hk4⟩ := info_parts Try.info3'
    have II := hide (And.intro hk1 (And.intro hk2 (And.intro hk3 hk4)))
    clear hk1 hk2 hk3 hk4 hcell hN
    go_enter Try.func18, Try.ntmps18
    go_wp2_with fail
    go_loopw [4, 5] (fun l i wr => ∃ j : Nat, i = .int .i64 j ∧ j ≤ N ∧ wr.ownsRow w.heap.size 3 1 l j ((srt (vals.take j)).map iv) ∧ w.grownBy wr none) (fun _ i _ => N - (intOf i).toNat)
    case atStart => exact ⟨0, rfl, by omega, ⟨rfl, .inl ⟨rfl, rfl⟩⟩, gb_refl _ _⟩
    case round =>
      obtain ⟨j, rfl, hj, hO, hg⟩ := hrel
      have hc1r := hg.cell hc1 (by simp)
      obtain ⟨wo, rfl⟩ : ∃ wo : World, wo = wr := ⟨_, rfl⟩
      obtain ⟨la, lc, rfl⟩ := own_slice hO
      by_cases hjn : j < N
      · have hjn' : (j : Int) < N := by omega
        have hzj := hg.cell (HC.out j hjn) (by simp)
        obtain ⟨z, hz⟩ : ∃ z, vals.getD j 0 = z := ⟨_, rfl⟩
        rw [hz] at hzj
        have hSl : (srt (vals.take j)).length = j := by have := HN.out; rw [srt_length]; simp; omega
        have hSs := hide (srt_sorted (vals.take j))
        have hSn := hide (srt_succ vals j (by have := HN.out; omega))
        rw [hz] at hSn
        obtain ⟨S, hS⟩ : ∃ S, srt (vals.take j) = S := ⟨_, rfl⟩
        rw [hS] at hSl hSs hSn hO
        have HSl := hide hSl
        clear hS hSl
        go_wp2_with (at_builtin; refine wpList_append_own _ rfl (.tmp 18) (.tmp 26) 22 rfl w.heap.size 3 iI (.int .i64 0) 1 8 Try.underlying22 II.out.1 II.out.2.1 II.out.2.2.1 II.out.2.2.2 rfl (by decide) _ j (S.map iv) rfl (hO.alloc _) ⟨wo.heap.size, 0, none⟩ 1 1 [.int .i64 z] rfl rfl ?d1 ?d2 ?d3 ?d4 ?d5 ?_)
        case d1 =>
          intro j u hj
          match j, hj with
          | 0, hj => simp at hj; subst hj; simp [Addr.add]
        case d2 => intro u hu; simp at hu; subst hu; rfl
        case d3 => unfold maxLen; omega
        case d4 => omega
        case d5 => have := hg.size; simp; omega
        intro v7 w7 hO7 hg7 _
        have hg8 := gb_young_own (gb_alloc hg _) hg7 (hO.alloc _) (Nat.le_refl _)
        have eA : S.map iv ++ [.int .i64 z] = (amid S z j).map iv := by
          have := HSl.out
          unfold amid
          rw [List.take_of_length_le (by omega), List.drop_eq_nil_of_le (by omega)]
          simp [iv]
        rw [eA] at hO7
        clear eA hO hg hg7 hzj hc1r
        obtain ⟨g7, cap7, rfl, hgb7, hgl7⟩ := hO7.form (by omega)
        go_wp2_with fail
        go_loopw [6] (fun kk wr => ∃ k : Nat, kk = .int .i64 k ∧ k ≤ j ∧ wr.ownsRow w.heap.size 3 1 (.slice (some ⟨g7, 0, none⟩) (j + 1) cap7) (j + 1) ((amid S z k).map iv) ∧ (∀ m, k ≤ m → m < j → z < S.getD m 0) ∧ w.grownBy wr none) (fun kk _ => (intOf kk).toNat)
        case atStart => exact ⟨j, rfl, by omega, hO7, fun m h1 h2 => by omega, hg8⟩
        case round =>
          obtain ⟨k, rfl, hk, hO8, hall, hg9⟩ := hrel
          obtain ⟨wp, rfl⟩ : ∃ wo : World, wo = wr := ⟨_, rfl⟩
          have HALL := hide hall
          clear hall hO7 hg8
          cases k with
          | zero =>
            have hend : (srt (vals.take (j + 1))) = amid S z 0 := by
              have hl := HSl.out
              rw [hSn.out]
              unfold ins amid
              rw [insAt_eq z S 0 (by omega) (fun m h => by omega) (fun h => by have := HALL.out 0 (by omega) (by omega); omega)]
            go_wp2_with fail
            go_quiet (fail)
            go_wp2_with fail
            exact ⟨⟨j + 1, by simp, by omega, by rw [hend]; exact hO8, gb_drewN hg9 _⟩, by simp [intOf]; omega⟩
          | succ p =>
            have hll := amid_len S z (p + 1) (by have := HSl.out; omega)
            have hck : wp.cell? ⟨g7, p + 1, none⟩ = some (.int .i64 z) := by
              rw [hO8.cellAt (p + 1) (by omega), map_iv_at _ _ (by have := HSl.out; omega), amid_at S z (p + 1) (by have := HSl.out; omega)]
            have hcp : wp.cell? ⟨g7, p, none⟩ = some (.int .i64 (S.getD p 0)) := by
              rw [hO8.cellAt p (by omega), map_iv_at _ _ (by have := HSl.out; omega), amid_prev S z p (by have := HSl.out; omega)]
            have hf1 := hO8.frozenAt (p + 1)
            have hf2 := hO8.frozenAt p
            obtain ⟨y, hy⟩ : ∃ y, S.getD p 0 = y := ⟨_, rfl⟩
            rw [hy] at hcp
            have hpp : (0 : Int) < (p : Int) + 1 := by omega
            have hp0 : (0 : Int) ≤ (p : Int) := by omega
            have hpw : IntKind.i64.wrap (p : Int) = (p : Int) := by rw [IntKind.wrap_i64]; omega
            clear hll
            by_cases hzy : z < y
            · go_wp2_with fail
              go_quiet (fail)
              have hO9 : (wp.drewN nq).ownsRow w.heap.size 3 1 (.slice (some ⟨g7, 0, none⟩) (j + 1) cap7) (j + 1) ((amid S z (p + 1)).map iv) := hO8
              have hg10 := gb_drewN hg9 nq
              have hck2 : (wp.drewN nq).cell? ⟨g7, p + 1, none⟩ = some (.int .i64 z) := hck
              have hcp2 : (wp.drewN nq).cell? ⟨g7, p, none⟩ = some (.int .i64 y) := hcp
              have hf3 := hO9.frozenAt (p + 1)
              have hf4 := hO9.frozenAt p
              clear hO8 hg9 hck hcp hf1 hf2
              generalize wp.drewN nq = wq at *
              go_wp2_with fail
              go_region
              have hst := (hO9.stored (p + 1) (.int .i64 y)).1.stored p (.int .i64 z)
              have hgs := gb_trans (hO9.stored (p + 1) (.int .i64 y)).2 hst.2
              have eS : (((amid S z (p + 1)).map iv).set (p + 1) (.int .i64 y)).set p (.int .i64 z) = (amid S z p).map iv := by
                rw [← amid_swap S z p (by have := HSl.out; omega), hy, List.map_set, List.map_set]
                rfl
              rw [eS] at hst
              have hO10 := hst.1
              have hg11 := gb_young hg10 hgs hgb7
              clear hst hgs hO9 hg10
              go_wp2_with fail
              exact ⟨⟨p, rfl, by omega, hO10, fun m h1 h2 => if h : m = p then by rw [h, hy]; exact hzy else HALL.out m (by omega) h2, gb_drew hg11⟩, by simp [intOf]⟩
            · have hend : (srt (vals.take (j + 1))) = amid S z (p + 1) := by
                have hl := HSl.out
                rw [hSn.out]
                unfold ins amid
                rw [insAt_eq z S (p + 1) (by omega) (fun m h => by have := sorted_le hSs.out (i := m) (j := p) (by omega) (by omega); omega) (fun h => by have := HALL.out (p + 1) (by omega) (by omega); omega)]
              go_wp2_with fail
              go_quiet (fail)
              go_wp2_with fail
              exact ⟨⟨j + 1, by simp, by omega, by rw [hend]; exact hO8, gb_drewN hg9 _⟩, by simp [intOf]; omega⟩
      · obtain rfl : j = N := by omega
        obtain ⟨g7, cap7, hla, hgb7, hgl7⟩ := hO.form (by omega)
        rw [Value.slice.injEq] at hla
        obtain ⟨rfl, -, rfl⟩ := hla
        obtain ⟨m, hm⟩ : ∃ m, (j - 1) / 2 = m := ⟨_, rfl⟩
        have q1 : (((j : Int) - 1).tdiv 2) = (m : Int) := by
          rw [Int.tdiv_eq_ediv_of_nonneg (by omega)]
          omega
        have q2 : m < j := by omega
        have hcm : wo.cell? ⟨g7, m, none⟩ = some (.int .i64 (mid vals)) := by
          have hN := HN.out
          rw [hO.cellAt m (by omega), map_iv_at _ _ (by rw [srt_length]; simp; omega)]
          unfold mid
          rw [hN, hm, show vals.take j = vals from List.take_of_length_le (by omega)]
        have hne : vals ≠ [] := fun h => by have := HN.out; rw [h] at this; simp at this; omega
        have HNE := hide hne
        clear hne
        obtain ⟨md, hmd⟩ : ∃ md, mid vals = md := ⟨_, rfl⟩
        rw [hmd] at hcm
        have HMD := hide hmd
        clear hmd
        go_wp2_with fail
        go_ret2
        rw [HMD.out]
        first
          | exact ⟨rfl, hg⟩
          | exact ⟨rfl, gb_drew hg⟩

/-- The document's filter behind a store of a row of one's own. -/
theorem RefAt.store {w : World} {b : Nat} {n : Int} {x : Value} (hB : Blk w b 39 #[.int .i64 n, x]) {l : List Int} {base g cap : Nat} (ho : w.ownsRow base 3 1 (.slice (some ⟨g, 0, none⟩) l.length cap) l.length (l.map iv)) (hb : b < base) (hl : 0 < l.length) :
    RefAt (w.setCell ⟨b, 1, none⟩ (.slice (some ⟨g, 0, none⟩) l.length cap)) b n l := by
  obtain ⟨g', cap', he, hbg, hgl⟩ := ho.form hl
  rw [Value.slice.injEq] at he
  obtain ⟨he, -, rfl⟩ := he
  simp only [Option.some.injEq, Addr.mk.injEq, and_true] at he
  subst he
  have hcap : l.length ≤ cap := by
    rcases ho.2 with ⟨h, _⟩ | ⟨g2, cap2, cur, h, _, _, hc, _⟩
    · simp at h
    · rw [Value.slice.injEq] at h; omega
  have hg := gb_set (gb_refl w (some b)) 1 (.slice (some ⟨g, 0, none⟩) l.length cap)
  refine ⟨_, Blk.set hB 1 _, .inr ⟨g, 0, cap, rfl, by omega, Nat.lt_of_lt_of_le hgl hg.size, hl, hcap, fun i hi => ?_⟩⟩
  refine hg.cell ?_ (by intro e; injection e with e; simp at e; omega)
  rw [Nat.zero_add, ho.cellAt i (by omega), map_iv_at _ _ hi]
/-- .. from the second number on. -/
theorem RefAt.tail_ {w : World} {b g cap N : Nat} {n : Int} {x : Value} {T : List Int} (hB : Blk w b 39 #[.int .i64 n, x]) (hbg : b < g) (hgl : g < w.heap.size) (hT : T.length = N + 1) (hN : 0 < N) (hcap : N + 1 ≤ cap)
    (hc : ∀ i, i < N + 1 → w.cell? ⟨g, i, none⟩ = some (.int .i64 (T.getD i 0))) : RefAt (w.setCell ⟨b, 1, none⟩ (.slice (some ⟨g, 1, none⟩) N (cap - 1))) b n T.tail := by
  have hg := gb_set (gb_refl w (some b)) 1 (.slice (some ⟨g, 1, none⟩) N (cap - 1))
  have hl : T.tail.length = N := by simp [hT]
  refine ⟨_, Blk.set hB 1 _, .inr ⟨g, 1, cap - 1, by rw [hl], hbg, Nat.lt_of_lt_of_le hgl hg.size, by omega, by omega, fun i hi => ?_⟩⟩
  refine hg.cell ?_ (by intro e; injection e with e; simp at e; omega)
  rw [Nat.add_comm 1 i, hc (i + 1) (by omega)]
  cases T with
  | nil => simp at hT
  | cons t T => rfl
theorem RefAt.drewN {w : World} {b : Nat} {n : Int} {l : List Int} (h : RefAt w b n l) (k : Nat) : RefAt (w.drewN k) b n l := h

set_option maxHeartbeats 4000000 in
set_option maxRecDepth 100000 in
theorem refPut_any (b : Nat) (n : Int) (vals : List Int) (v : Int) (w : World) (hb : RefAt w b n vals) (h1 : 1 ≤ n) (h2 : n ≤ 15) (h3 : (vals.length : Int) ≤ n) :
    Calls Try.prog 17 #[.pointer (some ⟨b, 0, none⟩), .int .i64 v] w fun e w' => e = .returned (.int .i64 (mid (put vals n v))) ∧ RefAt w' b n (put vals n v) ∧ w.grownBy w' (some b) := by
  obtain ⟨x, hB, hv⟩ := hb
  have hc1 : w.cell? ⟨b, 1, none⟩ = some x := Blk.cell hB 1
  have hf1 := Blk.free hB 1
  obtain ⟨iI, hk1, hk2, hk3, hk4⟩ := info_parts Try.info3'
  have II := hide (And.intro hk1 (And.intro hk2 (And.intro hk3 hk4)))
  have HB := hide hB
  clear hk1 hk2 hk3 hk4
  rcases hv with ⟨rfl, rfl⟩ | ⟨g, o, cap, rfl, hbg, hgl, hpos, hcap, hcell⟩
  · go_enter Try.func17, Try.ntmps17
    go_wp2_with (at_builtin; refine wpList_append_own _ rfl (.tmp 12) (.tmp 14) 22 rfl w.heap.size 3 iI (.int .i64 0) 1 8 Try.underlying22 II.out.1 II.out.2.1 II.out.2.2.1 II.out.2.2.2 rfl (by decide) (.slice none 0 0) 0 [] rfl ⟨rfl, .inl ⟨rfl, rfl⟩⟩ ⟨w.heap.size, 0, none⟩ 1 1 [.int .i64 v] rfl rfl ?d1 ?d2 ?d3 ?d4 ?d5 ?_)
    case d1 =>
      intro j u hj
      match j, hj with
      | 0, hj => simp at hj; subst hj; simp [Addr.add]
    case d2 => intro u hu; simp at hu; subst hu; rfl
    case d3 => unfold maxLen; omega
    case d4 => omega
    case d5 => simp
    intro v6 W ho6 hg6 _
    have hgW : w.grownBy W none := gb_trans (gb_alloc (gb_refl _ _) _) hg6
    obtain ⟨g6, cap6, rfl, hgb6, hgl6⟩ := ho6.form (by omega)
    have hBW : Hid (Blk W b 39 #[.int .i64 n, .slice none 0 0]) := hide (Blk.other HB.out hgW (by simp))
    have cW : W.cell? ⟨b, 1, none⟩ = some (.slice none 0 0) := Blk.cell hBW.out 1
    have fW : W.frozen? ⟨b, 1, none⟩ = false := Blk.free hBW.out 1
    have hblt := Blk.lt HB.out
    have hR : Hid (RefAt (W.setCell ⟨b, 1, none⟩ (.slice (some ⟨g6, 0, none⟩) 1 cap6)) b n [v]) := hide (RefAt.store hBW.out (l := [v]) ho6 hblt (by simp))
    have c0 : (W.setCell ⟨b, 1, none⟩ (.slice (some ⟨g6, 0, none⟩) 1 cap6)).cell? ⟨b, 0, none⟩ = some (.int .i64 n) := Blk.cell (Blk.set hBW.out 1 _) 0
    have c1 : (W.setCell ⟨b, 1, none⟩ (.slice (some ⟨g6, 0, none⟩) 1 cap6)).cell? ⟨b, 1, none⟩ = some (.slice (some ⟨g6, 0, none⟩) 1 cap6) := Blk.cell (Blk.set hBW.out 1 _) 1
    have hgS : w.grownBy (W.setCell ⟨b, 1, none⟩ (.slice (some ⟨g6, 0, none⟩) 1 cap6)) (some b) := gb_set (gb_any hgW) _ _
    have t1 : ¬ n < 1 := by omega
    have d1 : decide (n < 1) = false := by simpa using t1
    have HPUT : Hid (put [] n v = [v]) := hide (by unfold put; rw [if_neg (by simp; omega)]; rfl)
    clear hc1 hf1 hB hg6 ho6 hgW
    go_wp2_with fail
    go_quiet (fail)
    generalize W.setCell ⟨b, 1, none⟩ (.slice (some ⟨g6, 0, none⟩) 1 cap6) = W2 at *
    go_wp2_with fail
    refine (refMedian_any b n [v] (W2.drewN nq) (hR.out.drewN nq) (by simp)).mono ?_
    rw [if_neg (by simp), show decide ([v] ≠ []) = true from by simp]
    rintro e w7 ⟨rfl, hg7⟩
    have hR2 : Hid (RefAt w7 b n [v]) := hide ((hR.out.drewN nq).keep hg7 (by simp))
    have hg8 : Hid (w.grownBy w7 (some b)) := hide (gb_trans (gb_drewN hgS nq) (gb_any hg7))
    obtain ⟨md, hmd⟩ : ∃ md, mid [v] = md := ⟨_, rfl⟩
    rw [hmd]
    have HMD := hide hmd
    clear hmd
    go_wp2_with fail
    go_ret
    rw [HPUT.out, HMD.out]
    exact ⟨rfl, hR2.out, hg8.out⟩
  · obtain ⟨N, hN⟩ : ∃ N, vals.length = N := ⟨_, rfl⟩
    have HN := hide hN
    have hnews : ∀ (j : Nat) (u : Value), (vals.map iv)[j]? = some u → w.cell? ((⟨g, o, none⟩ : Addr).add j) = some u := fun j u hj => by
      have hjl : j < vals.length := by
        rcases Nat.lt_or_ge j vals.length with h | h
        · exact h
        · rw [List.getElem?_eq_none (by simpa using h)] at hj; simp at hj
      rw [map_iv_at _ _ hjl] at hj
      rw [show (({ block := g, off := o } : Addr).add j) = ⟨g, o + j, none⟩ from by unfold Addr.add; split <;> simp_all, hcell j hjl, hj]
    have HNEWS := hide hnews
    have HL := hide (show (vals.map iv).length = N * 1 by simp [hN])
    rw [hN] at hc1 h3 hpos
    have hN15 : N ≤ 15 := by omega
    clear hnews hcell hN hcap
    go_enter Try.func17, Try.ntmps17
    go_wp2_with (at_builtin; refine wpList_append_own _ rfl (.const (.slice none 0 0)) (.tmp 11) 22 rfl w.heap.size 3 iI (.int .i64 0) 1 8 Try.underlying22 II.out.1 II.out.2.1 II.out.2.2.1 II.out.2.2.2 rfl (by decide) (.slice none 0 0) 0 [] rfl ⟨rfl, .inl ⟨rfl, rfl⟩⟩ ⟨g, o, none⟩ N cap (vals.map iv) rfl HL.out HNEWS.out ?d2 ?d3 ?d4 (Nat.le_refl _) ?_)
    case d2 => intro u hu; simp only [List.mem_map] at hu; obtain ⟨x, _, rfl⟩ := hu; rfl
    case d3 => unfold maxLen; omega
    case d4 => omega
    intro v5 w5 ho5 hg5 _
    have hg5' : w.grownBy w5 none := hg5
    clear hg5
    go_wp2_with (at_builtin; refine wpList_append_own _ rfl (.tmp 12) (.tmp 14) 22 rfl w.heap.size 3 iI (.int .i64 0) 1 8 Try.underlying22 II.out.1 II.out.2.1 II.out.2.2.1 II.out.2.2.2 rfl (by decide) v5 N (vals.map iv) rfl (ho5.alloc _) ⟨w5.heap.size, 0, none⟩ 1 1 [.int .i64 v] rfl rfl ?d1 ?d2 ?d3 ?d4 ?d5 ?_)
    case d1 =>
      intro j u hj
      match j, hj with
      | 0, hj => simp at hj; subst hj; simp [Addr.add]
    case d2 => intro u hu; simp at hu; subst hu; rfl
    case d3 => unfold maxLen; omega
    case d4 => omega
    case d5 => have := hg5'.size; simp; omega
    intro v6 W ho6 hg6 _
    have hgW : w.grownBy W none := gb_young_own (gb_alloc hg5' _) hg6 (ho5.alloc _) (Nat.le_refl _)
    obtain ⟨T, hT⟩ : ∃ T, vals ++ [v] = T := ⟨_, rfl⟩
    have hTl : T.length = N + 1 := by rw [← hT]; have := HN.out; simp; omega
    have eT : vals.map iv ++ [.int .i64 v] = T.map iv := by rw [← hT]; simp [iv]
    rw [eT] at ho6
    obtain ⟨g6, cap6, rfl, hgb6, hgl6⟩ := ho6.form (by omega)
    have hBW : Hid (Blk W b 39 #[.int .i64 n, .slice (some ⟨g, o, none⟩) vals.length cap]) := hide (Blk.other HB.out hgW (by simp))
    have cW : W.cell? ⟨b, 1, none⟩ = some (.slice (some ⟨g, o, none⟩) N cap) := by rw [← HN.out]; exact Blk.cell hBW.out 1
    have fW : W.frozen? ⟨b, 1, none⟩ = false := Blk.free hBW.out 1
    have hblt := Blk.lt HB.out
    have hR : Hid (RefAt (W.setCell ⟨b, 1, none⟩ (.slice (some ⟨g6, 0, none⟩) (N + 1) cap6)) b n T) := hide (by
      rw [← hTl] at ho6 ⊢
      exact RefAt.store hBW.out ho6 hblt (by omega))
    have hBS : Hid (Blk (W.setCell ⟨b, 1, none⟩ (.slice (some ⟨g6, 0, none⟩) (N + 1) cap6)) b 39 #[.int .i64 n, .slice (some ⟨g6, 0, none⟩) (N + 1) cap6]) := hide (Blk.set hBW.out 1 _)
    have c0 : (W.setCell ⟨b, 1, none⟩ (.slice (some ⟨g6, 0, none⟩) (N + 1) cap6)).cell? ⟨b, 0, none⟩ = some (.int .i64 n) := Blk.cell hBS.out 0
    have c1 : (W.setCell ⟨b, 1, none⟩ (.slice (some ⟨g6, 0, none⟩) (N + 1) cap6)).cell? ⟨b, 1, none⟩ = some (.slice (some ⟨g6, 0, none⟩) (N + 1) cap6) := Blk.cell hBS.out 1
    have f1 : (W.setCell ⟨b, 1, none⟩ (.slice (some ⟨g6, 0, none⟩) (N + 1) cap6)).frozen? ⟨b, 1, none⟩ = false := Blk.free hBS.out 1
    have hgS : w.grownBy (W.setCell ⟨b, 1, none⟩ (.slice (some ⟨g6, 0, none⟩) (N + 1) cap6)) (some b) := gb_set (gb_any hgW) _ _
    clear hc1 hf1 hB hg6 ho5 hg5' hgW eT
    by_cases hfull : (N : Int) < n
    · have t1 : ¬ n < (N : Int) + 1 := by omega
      have d1 : decide (n < (N : Int) + 1) = false := by simpa using t1
      have t2 : ¬ n ≤ (N : Int) := by omega
      have d2 : decide (n ≤ (N : Int)) = false := by simpa using t2
      have HPUT : Hid (put vals n v = T) := hide (by unfold put; rw [if_neg (by rw [HN.out]; omega), hT])
      clear ho6
      go_wp2_with fail
      go_quiet (fail)
      generalize W.setCell ⟨b, 1, none⟩ (.slice (some ⟨g6, 0, none⟩) (N + 1) cap6) = W2 at *
      go_wp2_with fail
      refine (refMedian_any b n T (W2.drewN nq) (hR.out.drewN nq) (by omega)).mono ?_
      have hTne : T ≠ [] := fun h => by rw [h] at hTl; simp at hTl
      rw [if_neg hTne, show decide (T ≠ []) = true from by simp [hTne]]
      rintro e w7 ⟨rfl, hg7⟩
      have hR2 : Hid (RefAt w7 b n T) := hide ((hR.out.drewN nq).keep hg7 (by simp))
      have hg8 : Hid (w.grownBy w7 (some b)) := hide (gb_trans (gb_drewN hgS nq) (gb_any hg7))
      obtain ⟨md, hmd⟩ : ∃ md, mid T = md := ⟨_, rfl⟩
      rw [hmd]
      have HMD := hide hmd
      clear hmd hTne hT
      go_wp2_with fail
      go_ret
      rw [HPUT.out, HMD.out]
      exact ⟨rfl, hR2.out, hg8.out⟩
    · obtain rfl : n = (N : Int) := by omega
      have hcap6 : N + 1 ≤ cap6 := by
        rcases ho6.2 with ⟨h, _⟩ | ⟨g2, cap2, cur, h, _, _, hc, _⟩
        · simp at h
        · rw [Value.slice.injEq] at h; omega
      have hc61 : ¬ cap6 = 1 := by omega
      have HPUT : Hid (put vals (N : Int) v = T.tail) := hide (by
        unfold put
        rw [if_pos (by rw [HN.out]), ← hT]
        cases vals with
        | nil => have := HN.out; simp at this; omega
        | cons t T => rfl)
      have hcl : Hid (∀ i, i < N + 1 → (W.setCell ⟨b, 1, none⟩ (.slice (some ⟨g6, 0, none⟩) (N + 1) cap6)).cell? ⟨g6, i, none⟩ = some (.int .i64 (T.getD i 0))) := hide (fun i hi => by
        refine (gb_set (gb_refl W (some b)) 1 (.slice (some ⟨g6, 0, none⟩) (N + 1) cap6)).cell ?_ (by intro e; injection e with e; simp at e; omega)
        rw [ho6.cellAt i (by omega), map_iv_at _ _ (by omega)])
      have hgl : g6 < (W.setCell ⟨b, 1, none⟩ (.slice (some ⟨g6, 0, none⟩) (N + 1) cap6)).heap.size := by simpa using hgl6
      clear ho6 hT
      go_wp2_with fail
      go_quiet (fail)
      generalize W.setCell ⟨b, 1, none⟩ (.slice (some ⟨g6, 0, none⟩) (N + 1) cap6) = W2 at *
      go_wp2_with fail
      have hR3 := RefAt.tail_ (w := W2.drewN nq) (Blk.drewN hBS.out nq) (by omega : b < g6) hgl hTl hpos hcap6 hcl.out
      refine (refMedian_any b (N : Int) T.tail _ hR3 (by simp; omega)).mono ?_
      have hTne : T.tail ≠ [] := fun h => by have : T.tail.length = N := by simp [hTl]
                                             rw [h] at this; simp at this; omega
      rw [if_neg hTne, show decide (T.tail ≠ []) = true from by simpa using hTne]
      rintro e w7 ⟨rfl, hg7⟩
      have hR2 : Hid (RefAt w7 b (N : Int) T.tail) := hide (hR3.keep hg7 (by simp))
      have hg8 : Hid (w.grownBy w7 (some b)) := hide (gb_trans (gb_set (gb_drewN hgS nq) _ _) (gb_any hg7))
      obtain ⟨md, hmd⟩ : ∃ md, mid T.tail = md := ⟨_, rfl⟩
      rw [hmd]
      have HMD := hide hmd
      clear hmd hTne
      go_wp2_with fail
      go_ret
      rw [HPUT.out, HMD.out]
      exact ⟨rfl, hR2.out, hg8.out⟩
end Go.Proofs.Ytadabpkfkdbafaa
