/- The walk of TimerMany. -/
import Derived.Test.YtabibaamlhchbaaTimer
namespace Go.Proofs.Ytabibaamlhchbaa
open Go.RowKit

theorem Try.info24 : (Try.prog.info? 24).map (fun i => (i.zero, i.size, i.bytes)) = some (some (.pointer none), 1, 8) := by kernel_rfl
theorem Try.info3 : (Try.prog.info? 3).map (fun i => (i.zero, i.size, i.bytes)) = some (some (.int .i64 0), 1, 8) := by kernel_rfl

def ptr (b : Nat) : Value := .pointer (some ⟨b, 0, none⟩)

/-- The timers in the blocks bs: no two of them are one; the j-th has f j ticks left. -/
def Many (B : Nat) (w : World) (bs : List Nat) (f : Nat → Int) : Prop := bs.Nodup ∧ (∀ b ∈ bs, B ≤ b) ∧ ∀ j b, bs[j]? = some b → TimerAt w b (f j)
theorem Many.kept {B : Nat} {w w' : World} {bs : List Nat} {f : Nat → Int} {row : Option Nat} (h : Many B w bs f) (hg : w.grownBy w' row) (hne : ∀ b ∈ bs, some b ≠ row) : Many B w' bs f :=
  ⟨h.1, h.2.1, fun j b hj => Blk.other (h.2.2 j b hj) hg (hne b (List.mem_of_getElem? hj))⟩
theorem Many.at_ {B : Nat} {w : World} {bs : List Nat} {f : Nat → Int} (h : Many B w bs f) {b : Nat} (hb : b ∈ bs) : ∃ j, TimerAt w b (f j) := by
  obtain ⟨j, hj⟩ := List.getElem?_of_mem hb
  exact ⟨j, h.2.2 j b hj⟩
theorem Many.kept_own {B : Nat} {w w' : World} {bs : List Nat} {f : Nat → Int} {base : Nat} {e : TypeId} {size n : Nat} {v : Value} {xs : List Value} (h : Many B w bs f) (hg : w.grownBy w' v.ownBlock) (ho : w.ownsRow base e size v n xs) (he : e ≠ 62) : Many B w' bs f :=
  h.kept hg fun b hb hr => by
    obtain ⟨j, hj⟩ := h.at_ hb
    exact own_ne_blk ho hj he hr.symm
theorem Many.push {B : Nat} {w : World} {bs : List Nat} {f : Nat → Int} {b : Nat} (h : Many B w bs f) (hb : B ≤ b) (hn : b ∉ bs) (ht : TimerAt w b (f bs.length)) : Many B w (bs ++ [b]) f := by
  refine ⟨?_, ?_, ?_⟩
  · rw [List.nodup_append]
    refine ⟨h.1, by simp, fun x hx y hy e => ?_⟩
    simp at hy
    subst e
    exact hn (hy ▸ hx)
  · intro x hx
    rcases List.mem_append.1 hx with hx | hx
    · exact h.2.1 x hx
    · simp at hx; omega
  · intro j x hj
    rw [List.getElem?_append] at hj
    split at hj
    · exact h.2.2 j x hj
    · rename_i hlt
      have hj0 : j = bs.length := by
        rcases Nat.lt_or_ge bs.length j with hc | hc
        · rw [List.getElem?_eq_none (by simp; omega)] at hj; simp at hj
        · omega
      subst hj0
      simp at hj
      rw [← hj]
      exact ht
theorem Many.notIn {B : Nat} {w : World} {bs : List Nat} {f : Nat → Int} (h : Many B w bs f) : w.heap.size ∉ bs := by
  intro hb
  obtain ⟨j, hj⟩ := h.at_ hb
  exact absurd (Blk.lt hj) (by omega)
theorem Many.tick {B : Nat} {w w' : World} {bs : List Nat} {f g : Nat → Int} {i b : Nat} (h : Many B w bs f) (hi : bs[i]? = some b) (hg : w.grownBy w' (some b)) (ht : TimerAt w' b (g i)) (he : ∀ j, j ≠ i → f j = g j) : Many B w' bs g := by
  refine ⟨h.1, h.2.1, fun j x hj => ?_⟩
  by_cases hji : j = i
  · subst hji
    rw [hi] at hj
    simp at hj
    rw [← hj]; exact ht
  · rw [← he j hji]
    refine Blk.other (h.2.2 j x hj) hg (fun hx => ?_)
    simp at hx
    subst hx
    exact hji ((List.getElem?_inj (List.getElem?_eq_some_iff.1 hj).1 h.1).1 (hj.trans hi.symm))

def N (z : List Int) (j : Nat) : Int := 1 + z.getD j 0 % 40
theorem N_bd (z : List Int) (j : Nat) : 1 ≤ N z j ∧ N z j ≤ 40 := by unfold N; omega

theorem Many.same {B : Nat} {w : World} {bs : List Nat} {f g : Nat → Int} (h : Many B w bs f) (he : ∀ j, j < bs.length → f j = g j) : Many B w bs g :=
  ⟨h.1, h.2.1, fun j b hj => by rw [← he j (List.getElem?_eq_some_iff.1 hj).1]; exact h.2.2 j b hj⟩

/-- What is left of the j-th behind m ticks. -/
def L (z : List Int) (m : Nat) (j : Nat) : Int := max 0 (N z j - m)
/-- In the middle of a round. -/
def Mid (z : List Int) (m i : Nat) (j : Nat) : Int := if j < i then L z m j else L z (m - 1) j

theorem tickL_hit (z : List Int) (m i b : Nat) (w : World) (hb : TimerAt w b (Mid z m i i)) (hm : 1 ≤ m) (hN : N z i = m) :
    Calls Try.prog 13 #[.pointer (some ⟨b, 0, none⟩)] w fun e w' => e = .returned (.bool true) ∧ TimerAt w' b (Mid z m (i + 1) i) ∧ w.grownBy w' (some b) := by
  have e1 : Mid z m i i = 1 := by simp [Mid, L, hN]; omega
  have e2 : Mid z m (i + 1) i = 0 := by simp [Mid, L, hN]
  rw [e1] at hb
  rw [e2]
  exact tick_last b w hb
theorem tickL_miss (z : List Int) (m i b : Nat) (w : World) (hb : TimerAt w b (Mid z m i i)) (hm : 1 ≤ m) (hN : N z i ≠ m) :
    Calls Try.prog 13 #[.pointer (some ⟨b, 0, none⟩)] w fun e w' => e = .returned (.bool false) ∧ TimerAt w' b (Mid z m (i + 1) i) ∧ w.grownBy w' (some b) := by
  have hb1 := N_bd z i
  rcases Int.lt_or_gt_of_ne hN with h | h
  · have e1 : Mid z m i i = 0 := by simp [Mid, L]; omega
    have e2 : Mid z m (i + 1) i = 0 := by simp [Mid, L]; omega
    rw [e1] at hb
    rw [e2]
    exact tick_stopped b w hb
  · have e1 : Mid z m i i = N z i - m + 1 := by simp [Mid, L]; omega
    have e2 : Mid z m (i + 1) i = N z i - m + 1 - 1 := by simp [Mid, L]; omega
    rw [e1] at hb
    rw [e2]
    exact tick_more b _ w hb (by omega) (by omega)
theorem Many.tickM {B : Nat} {w w' : World} {bs : List Nat} {z : List Int} {m i b : Nat} (h : Many B w bs (Mid z m i)) (hi : bs[i]? = some b) (hg : w.grownBy w' (some b)) (ht : TimerAt w' b (Mid z m (i + 1) i)) : Many B w' bs (Mid z m (i + 1)) :=
  h.tick hi hg ht fun j hj => by
    unfold Mid
    by_cases h1 : j < i
    · rw [if_pos h1, if_pos (by omega)]
    · rw [if_neg h1, if_neg (by omega)]

set_option maxHeartbeats 4000000 in
set_option maxRecDepth 100000 in
theorem timerMany_walk (a0 : Option Addr) (len0 cap0 : Nat) (z0 : List Int) (w : World) (w0 : IsRow .i64 w a0 len0 cap0 z0) :
    Calls Try.prog 3 #[.slice a0 len0 cap0] w fun e w' => e = .returned (.bool true) ∧ Below w.heap.size w w' := by
  have l0 := row_len w0
  obtain ⟨iP, hi1, hi2, hi3, hi4⟩ := info_parts Try.info24
  obtain ⟨iI, hk1, hk2, hk3, hk4⟩ := info_parts Try.info3
  have IP := hide (And.intro hi1 (And.intro hi2 (And.intro hi3 hi4)))
  have II := hide (And.intro hk1 (And.intro hk2 (And.intro hk3 hk4)))
  clear hi1 hi2 hi3 hi4 hk1 hk2 hk3 hk4
  go_enter Try.func3, Try.ntmps3
  go_wp2_with fail
  go_loopw [3, 4, 5] (fun l lf i wr => ∃ (k : Nat) (bs : List Nat), i = .int .i64 k ∧ k ≤ len0 ∧ k ≤ 10 ∧ bs.length = k ∧ wr.ownsRow w.heap.size 24 1 l k (bs.map ptr) ∧ wr.ownsRow w.heap.size 3 1 lf k ((List.range k).map fun j => .int .i64 (N z0 j)) ∧
      Many w.heap.size wr bs (N z0) ∧ w.grownBy wr none) (fun _ _ i _ => 10 - (intOf i).toNat)
  case atStart => exact ⟨0, [], rfl, by omega, by omega, rfl, World.ownsRow_nil _ _ _ _, World.ownsRow_nil _ _ _ _, ⟨by simp, by simp, by simp⟩, gb_refl _ _⟩
  case round =>
    obtain ⟨k, bs, rfl, hk0, hk1, hbl, hol, hof, hM, hg⟩ := hrel
    have HL := hide hbl
    clear hbl
    by_cases hkk : k < len0 ∧ k < 10
    · obtain ⟨hk, hk2⟩ := hkk
      obtain ⟨b, off, rfl, hz, hbw, hrow⟩ := row_open w0 (by omega)
      · have hc := ((hrow.kept hg) k (by omega)).1
        go_wp2_with fail
        refine (new_any _).mono ?_
        rintro e w4 ⟨rfl, hb4, hg4⟩
        have g4 := gb_trans hg hg4
        have hc4 := hg4.cell hc (by simp)
        clear hc
        go_wp2_with fail
        refine (place_any _ _ _ (by omega) (by omega)).mono ?_
        rintro e w5 ⟨rfl, rfl⟩
        clear hc4
        rw [show z0[k]?.getD 0 % 40 = N z0 k - 1 from by unfold N; rw [List.getD_eq_getElem?_getD]; omega]
        have hN := N_bd z0 k
        go_wp2_with fail
        rw [show 1 + (N z0 k - 1) = N z0 k from by omega]
        refine (start_any _ _ _ _ hb4).mono ?_
        rintro e w5 ⟨rfl, hb5, hg5⟩
        rw [show cutN (N z0 k) = N z0 k from by unfold cutN; omega] at hb5
        have hgg := gb_young hg4 hg5 (Nat.le_refl _)
        have hM5 := (hM.kept hgg (by simp)).push (b := wr.heap.size) hg.size hM.notIn (by rw [HL.out]; exact hb5)
        have hol5 := own_kept hol hgg
        have hof5 := own_kept hof hgg
        have g5 := gb_trans hg hgg
        clear hb4 hg4 g4 hb5 hg5 hgg hM hol hof hg
        go_wp2_with (at_builtin; refine wpList_append_own _ rfl (.tmp 32) (.tmp 34) 23 rfl w.heap.size 24 iP (.pointer none) 1 8 Try.underlying23 IP.out.1 IP.out.2.1 IP.out.2.2.1 IP.out.2.2.2 rfl (by decide) _ k (bs.map ptr) rfl (hol5.alloc _) ⟨w5.heap.size, 0, none⟩ 1 1 [ptr wr.heap.size] rfl rfl ?c1 ?c2 ?c3 ?c4 ?c5 ?_)
        case c1 =>
          intro j u hj
          match j, hj with
          | 0, hj => simp at hj; subst hj; simp [Addr.add, ptr]
        case c2 => intro u hu; simp at hu; subst hu; rfl
        case c3 => unfold maxLen; omega
        case c4 => omega
        case c5 => have := g5.size; simp; omega
        intro v6 w6 hol6 hg6 _
        have hM6 := (hM5.kept (World.grownBy_alloc _ _ none) (by simp)).kept_own hg6 (hol5.alloc _) (by decide)
        have hof6 := (hof5.alloc _).kept hg6 (own_ne_own hof5 hol5 (by decide))
        have g6 := gb_young_own (gb_alloc g5 _) hg6 (hol5.alloc _) (Nat.le_refl _)
        clear hM5 hol5 hof5 g5 hg6
        go_wp2_with (at_builtin; refine wpList_append_own _ rfl (.tmp 36) (.tmp 38) 22 rfl w.heap.size 3 iI (.int .i64 0) 1 8 Try.underlying22 II.out.1 II.out.2.1 II.out.2.2.1 II.out.2.2.2 rfl (by decide) _ k ((List.range k).map fun j => .int .i64 (N z0 j)) rfl (hof6.alloc _) ⟨w6.heap.size, 0, none⟩ 1 1 [.int .i64 (N z0 k)] rfl rfl ?d1 ?d2 ?d3 ?d4 ?d5 ?_)
        case d1 =>
          intro j u hj
          match j, hj with
          | 0, hj => simp at hj; subst hj; simp [Addr.add]
        case d2 => intro u hu; simp at hu; subst hu; rfl
        case d3 => unfold maxLen; omega
        case d4 => omega
        case d5 => have := g6.size; simp; omega
        intro v7 w7 hof7 hg7 _
        have hM7 := (hM6.kept (World.grownBy_alloc _ _ none) (by simp)).kept_own hg7 (hof6.alloc _) (by decide)
        have hol7 := (hol6.alloc _).kept hg7 (own_ne_own hol6 hof6 (by decide))
        have g7 := gb_young_own (gb_alloc g6 _) hg7 (hof6.alloc _) (Nat.le_refl _)
        clear hM6 hol6 hof6 g6 hg7
        go_wp2
        refine ⟨⟨k + 1, bs ++ [wr.heap.size], by go_num, by omega, by omega, by simp [HL.out], ?_, ?_, hM7, g7⟩, by simp [intOf]; omega⟩
        · rw [List.map_append]; exact hol7
        · rw [List.range_succ, List.map_append]; exact hof7
    · obtain ⟨al, cl, rfl⟩ := own_slice hol
      obtain ⟨af, cf, rfl⟩ := own_slice hof
      rcases (show ¬ k < len0 ∨ (k < len0 ∧ ¬ k < 10) from by omega) with hx | ⟨hx, hy⟩ <;> go_wp2_with fail
      all_goals
        clear hx hkk
        go_loopw [8] (fun x w2 => ∃ m : Nat, x = .int .i64 m ∧ 1 ≤ m ∧ m ≤ 46 ∧ Many w.heap.size w2 bs (L z0 (m - 1)) ∧ w2.ownsRow w.heap.size 24 1 (.slice al k cl) k (bs.map ptr) ∧ w2.ownsRow w.heap.size 3 1 (.slice af k cf) k ((List.range k).map fun j => .int .i64 (N z0 j)) ∧ w.grownBy w2 none) (fun x _ => 46 - (intOf x).toNat)
        case atStart => exact ⟨1, rfl, by omega, by omega, hM.same (fun j _ => by unfold L; have := N_bd z0 j; omega), hol, hof, hg⟩
        case round =>
          clear hM hol hof hg
          obtain ⟨m, rfl, hm0, hm1, hM, hol, hof, hg⟩ := hrel
          by_cases hm : m ≤ 45
          · have t0 : decide ((m : Int) ≤ 45) = true := by simp; omega
            go_wp2_with fail
            obtain ⟨wo, rfl⟩ : ∃ wo : World, wo = wr := ⟨_, rfl⟩
            go_loopw [9] (fun y w3 => ∃ i : Nat, y = .int .i64 i ∧ i ≤ k ∧ Many w.heap.size w3 bs (Mid z0 m i) ∧ w3.ownsRow w.heap.size 24 1 (.slice al k cl) k (bs.map ptr) ∧ w3.ownsRow w.heap.size 3 1 (.slice af k cf) k ((List.range k).map fun j => .int .i64 (N z0 j)) ∧ w.grownBy w3 none) (fun y _ => k - (intOf y).toNat)
            case atStart => exact ⟨0, rfl, by omega, hM.same (fun j _ => by simp [Mid]), hol, hof, hg⟩
            case round =>
              clear hM hol hof hg
              obtain ⟨i, rfl, hi0, hM, hol, hof, hg⟩ := hrel
              by_cases hi : i < k
              · obtain ⟨gl, rfl⟩ := own_addr hol (by omega)
                obtain ⟨gf, rfl⟩ := own_addr hof (by omega)
                obtain ⟨b, hb⟩ : ∃ b, bs[i]? = some b := ⟨bs[i]'(by rw [HL.out]; exact hi), List.getElem?_eq_getElem (by rw [HL.out]; exact hi)⟩
                have c1 : wr.cell? ⟨gl, i, none⟩ = some (.pointer (some ⟨b, 0, none⟩)) := by rw [hol.cellAt i (by omega), List.getElem?_map, hb]; rfl
                have c2 : wr.cell? ⟨gf, i, none⟩ = some (.int .i64 (N z0 i)) := by rw [hof.cellAt i (by omega), List.getElem?_map, List.getElem?_range hi]; rfl
                have HB := hide hb
                clear hb
                have hTb := hM.2.2 i b HB.out
                have hne : some gf ≠ some b := own_ne_blk hof hTb (by decide)
                go_wp2_with fail
                by_cases hNm : N z0 i = m
                · have t1 : (N z0 i == (m : Int)) = true := by rw [beq_iff_eq]; exact hNm
                  go_region_with (go_at_call 13; refine (tickL_hit z0 m i b _ ?_ hm0 hNm).mono ?_; exact hTb; rintro e w4 ⟨rfl, hb4, hg4⟩; have c3 := World.grownBy.cell hg4 c2 hne)
                  all_goals
                    go_wp2
                    have hg5 := gb_undrew hg4
                    exact ⟨⟨i + 1, by go_num, by omega, Many.tickM hM HB.out hg5 hb4, World.ownsRow.kept hol hg5 (.inr (own_ne_blk hol hTb (by decide))), World.ownsRow.kept hof hg5 (.inr hne), gb_young hg hg5 (hM.2.1 b (List.mem_of_getElem? HB.out))⟩, by simp [intOf]; omega⟩
                · have t1 : (N z0 i == (m : Int)) = false := by rw [beq_eq_false_iff_ne]; exact hNm
                  go_region_with (go_at_call 13; refine (tickL_miss z0 m i b _ ?_ hm0 hNm).mono ?_; exact hTb; rintro e w4 ⟨rfl, hb4, hg4⟩; have c3 := World.grownBy.cell hg4 c2 hne)
                  all_goals
                    go_wp2
                    have hg5 := gb_undrew hg4
                    exact ⟨⟨i + 1, by go_num, by omega, Many.tickM hM HB.out hg5 hb4, World.ownsRow.kept hol hg5 (.inr (own_ne_blk hol hTb (by decide))), World.ownsRow.kept hof hg5 (.inr hne), gb_young hg hg5 (hM.2.1 b (List.mem_of_getElem? HB.out))⟩, by simp [intOf]; omega⟩
              · go_wp2_with fail
                exact ⟨⟨m + 1, by go_num, by omega, by omega, hM.same (fun j hj => by rw [HL.out] at hj; simp [Mid]; omega), hol, hof, hg⟩, by simp [intOf]; omega⟩
          · go_wp2_with fail
            refine (awake_any _).mono ?_
            rintro e w4 ⟨rfl, hg4⟩
            go_wp2
            go_ret
            exact ⟨rfl, below_of_gb (gb_trans hg hg4)⟩
end Go.Proofs.Ytabibaamlhchbaa
