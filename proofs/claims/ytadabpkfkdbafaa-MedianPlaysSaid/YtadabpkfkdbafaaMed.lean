/- The filter, as a plain machine over lists of numbers; contracts of package median. -/
import Derived.Test.YtadabpkfkdbafaaObj
namespace Go.Proofs.Ytadabpkfkdbafaa
open Go.RowKit
attribute [local go_sem] max_two min_two max2_max min2_min

def iv (n : Int) : Value := .int .i64 n
/-- Where a number belongs: behind those that are not greater, as long as these last. -/
def insAt (S : List Int) (v : Int) : Nat := (S.takeWhile fun x => decide (x ≤ v)).length
def ins (S : List Int) (v : Int) : List Int := S.take (insAt S v) ++ v :: S.drop (insAt S v)
def srt (l : List Int) : List Int := l.foldl ins []

theorem insAt_eq (v : Int) : ∀ (S : List Int) (j : Nat), j ≤ S.length → (∀ m, m < j → S.getD m 0 ≤ v) → (j < S.length → ¬ S.getD j 0 ≤ v) → insAt S v = j
  | [], j, h, _, _ => by have : j = 0 := by simpa using h
                         subst this; rfl
  | x :: S, 0, _, _, h => by
    have := h (by simp)
    simp only [List.getD_cons_zero] at this
    simp [insAt, this]
  | x :: S, j + 1, hl, ha, hb => by
    have h0 := ha 0 (by omega)
    simp only [List.getD_cons_zero] at h0
    have := insAt_eq v S j (by simpa using hl) (fun m hm => by simpa using ha (m + 1) (by omega)) (fun hj => by simpa using hb (by simpa using hj))
    unfold insAt at this ⊢
    rw [List.takeWhile_cons, if_pos (by simpa using h0), List.length_cons, this]
theorem getD_take (L : List Int) (k m : Nat) (h : m < k) : (L.take k).getD m 0 = L.getD m 0 := by
  rw [List.getD_eq_getElem?_getD, List.getElem?_take, if_pos h, ← List.getD_eq_getElem?_getD]
theorem insAt_take (L : List Int) (k j : Nat) (v : Int) (hk : k ≤ L.length) (hj : j ≤ k) (ha : ∀ m, m < j → L.getD m 0 ≤ v) (hx : j < k → ¬ L.getD j 0 ≤ v) : insAt (L.take k) v = j :=
  insAt_eq v (L.take k) j (by simp; omega) (fun m hm => by rw [getD_take _ _ _ (by omega)]; exact ha m hm) (fun h => by
    have hjk : j < k := by simp at h; omega
    rw [getD_take _ _ _ hjk]; exact hx hjk)
theorem shift_ins (L : List Int) (j k : Nat) (v : Int) (hj : j ≤ k) (hk : k < L.length) :
    ((L.take (j + 1) ++ (L.drop j).take (k - j) ++ L.drop (j + 1 + (k - j))).set j v).take (k + 1) = (L.take k).take j ++ v :: (L.take k).drop j := by
  have e1 : (L.take (j + 1)).set j v = L.take j ++ [v] := by
    apply List.ext_getElem?
    intro i
    simp only [List.getElem?_set, List.getElem?_append, List.getElem?_take, List.length_take]
    rcases Nat.lt_trichotomy i j with h | rfl | h
    · rw [if_neg (by omega), if_pos (by omega), if_pos (by omega), if_pos (by omega)]
    · rw [if_pos rfl, if_pos (by omega), if_neg (by omega), show i - min i L.length = 0 by omega]; rfl
    · rw [if_neg (by omega), if_neg (by omega), if_neg (by omega), List.getElem?_eq_none (by simp; omega)]
  have l1 : (L.take (j + 1)).length = j + 1 := by simp; omega
  rw [List.append_assoc, List.set_append_left _ _ (by omega), e1]
  have e2 : ((L.drop j).take (k - j)) = (L.take k).drop j := by rw [List.drop_take]
  have l2 : (L.take j ++ [v] ++ (L.take k).drop j).length = k + 1 := by simp; omega
  rw [e2, ← List.append_assoc, List.take_append_of_le_length (by omega), List.take_of_length_le (by omega), List.take_take, Nat.min_eq_left hj]
  simp
theorem take_ins (L : List Int) (k : Nat) (v : Int) (hk : k < L.length) : (L.set k v).take (k + 1) = L.take k ++ [v] := by
  apply List.ext_getElem?
  intro i
  simp only [List.getElem?_set, List.getElem?_append, List.getElem?_take, List.length_take]
  rcases Nat.lt_trichotomy i k with h | rfl | h
  · rw [if_pos (by omega), if_neg (by omega), if_pos (by omega), if_pos (by omega)]
  · rw [if_pos (by omega), if_pos rfl, if_pos (by omega), if_neg (by omega), show i - min i L.length = 0 by omega]; rfl
  · rw [if_neg (by omega), if_neg (by omega), List.getElem?_eq_none (by simp; omega)]
theorem srt_succ (l : List Int) (k : Nat) (hk : k < l.length) : srt (l.take (k + 1)) = ins (srt (l.take k)) (l.getD k 0) := by
  unfold srt
  rw [List.take_succ_eq_append_getElem hk, List.foldl_append, List.getD_eq_getElem?_getD, List.getElem?_eq_getElem hk]
  rfl
theorem ins_length (S : List Int) (v : Int) : (ins S v).length = S.length + 1 := by
  have : insAt S v ≤ S.length := by unfold insAt; exact List.Sublist.length_le (List.takeWhile_sublist _)
  simp [ins]; omega
theorem srt_length (l : List Int) : (srt l).length = l.length := by
  have : ∀ (l S : List Int), (l.foldl ins S).length = S.length + l.length := by
    intro l
    induction l with
    | nil => simp
    | cons x l ih => intro S; simp [ih, ins_length]; omega
  simpa [srt] using this l []

/-- A block of whole numbers. -/
def Ints (w : World) (b : Nat) (t : TypeId) (l : List Int) : Prop := Blk w b t ((l.map iv).toArray)
theorem Ints.cell {w : World} {b : Nat} {t : TypeId} {l : List Int} (h : Ints w b t l) {i : Nat} (hi : i < l.length) : w.cell? ⟨b, i, none⟩ = some (.int .i64 (l.getD i 0)) := by
  rw [Blk.cell h i]
  simp [iv, hi]
theorem Ints.set {w : World} {b : Nat} {t : TypeId} {l : List Int} (h : Ints w b t l) (i : Nat) (v : Int) : Ints (w.setCell ⟨b, i, none⟩ (.int .i64 v)) b t (l.set i v) := by
  have h1 := Blk.set h i (.int .i64 v)
  unfold Ints
  rw [List.map_set]
  simpa [iv] using h1

theorem setRow_ints {w : World} {b : Nat} {t : TypeId} {l : List Int} (h : Ints w b t l) (l' : List Int) : Ints (w.setRow b ((l'.map iv).toArray)) b t l' := setRow_heap w b _ _ t (0, 0) h
theorem gb_setRow {a w : World} {row : Option Nat} {b : Nat} (h : a.grownBy w none) (hb : a.heap.size ≤ b) (cs : Array Value) : a.grownBy (w.setRow b cs) row := by
  refine gb_any (gb_young h (b := b) ⟨rfl, rfl, rfl, by simp [World.setRow], fun k hk hne => ?_⟩ hb)
  simp only [World.setRow, Array.getElem?_modify]
  rw [if_neg (fun e => hne (by rw [e]))]
theorem setRow_other {w : World} {b g : Nat} {t : TypeId} {l : List Int} (h : Ints w b t l) (hne : b ≠ g) (cs : Array Value) : Ints (w.setRow g cs) b t l := by
  unfold Ints Blk at *
  simp only [World.setRow, Array.getElem?_modify]
  rw [if_neg (fun e => hne e.symm)]
  exact h
theorem setCell_other {w : World} {b g : Nat} {t : TypeId} {l : List Int} (h : Ints w b t l) (hne : b ≠ g) (i : Nat) (v : Value) : Ints (w.setCell ⟨g, i, none⟩ v) b t l :=
  Blk.other h (gb_set (gb_refl w (some g)) i v) (by simpa using hne)
theorem copy_ints {w : World} {b : Nat} {t ty : TypeId} {L : List Int} (h : Ints w b t L) (o s n c n' c' : Nat) (h1 : o + n ≤ L.length) (h2 : s + n ≤ L.length) (hn : n ≤ n') :
    (Builtin.copy_ #[22, 22] ty #[.slice (some ⟨b, o, none⟩) n c, .slice (some ⟨b, s, none⟩) n' c']).run Try.prog w = .ok (goInt n) (w.setRow b (((L.take o ++ (L.drop s).take n ++ L.drop (o + n)).map iv).toArray)) := by
  have hl : (((L.drop s).take n).map iv).length = n := by simp; omega
  have := run_copy_row (P := Try.prog) w 22 22 ty _ b o n c ⟨b, s, none⟩ n' c' _ t (((L.drop s).take n).map iv) Try.underlying22 (by kernel_rfl) h (by rw [hl]; exact (Nat.min_eq_right hn).symm) (fun j v hj => ?_) (by rw [hl]; simp; omega) (by intro v hv; simp only [List.mem_map] at hv; obtain ⟨x, _, rfl⟩ := hv; rfl)
  · rw [this, hl]
    congr 3
    simp [List.map_take, List.map_drop]
  · rw [List.getElem?_map, List.getElem?_take] at hj
    split at hj
    · rename_i hjn
      rw [show (({ block := b, off := s } : Addr).add j) = ⟨b, s + j, none⟩ from by unfold Addr.add; split <;> simp_all, Blk.cell h]
      rw [List.getElem?_drop] at hj
      simpa using hj
    · simp at hj

theorem copy_none (w : World) (ty : TypeId) (a a' : Option Addr) (c c' : Nat) : (Builtin.copy_ #[22, 22] ty #[.slice a 0 c, .slice a' 0 c']).run Try.prog w = .ok (goInt 0) w := by
  have hs : (Try.prog.info? (Try.prog.elem 22)).map (·.size) = some 1 := by kernel_rfl
  have hu : Try.prog.underlying 22 = some (.slice (Try.prog.elem 22)) := Try.underlying22
  cases hq : Try.prog.info? (Try.prog.elem 22) with
  | none => simp [hq] at hs
  | some i =>
    have hi : i.size = 1 := by simpa [hq] using hs
    cases a <;> cases a' <;> simp [Builtin.copy_, run_underlying hu, Builtin.lenOf, Builtin.firstCells, sizeOf, typeInfo, hq, storeCells, loadCells, loadCellsFrom]

def FiAt (w : World) (b : Nat) (vals : List Int) (most : Int) : Prop :=
  ∃ junk : List Int, Ints w b 43 (vals ++ junk ++ [(vals.length : Int), most]) ∧ vals.length + junk.length = 15 ∧ 1 ≤ most ∧ most ≤ 15 ∧ (vals.length : Int) ≤ most

theorem new_any (n : Int) (w : World) :
    Calls Try.prog 8 #[.int .i64 n] w fun e w' => e = .returned (.pointer (some ⟨w.heap.size, 0, none⟩)) ∧ FiAt w' w.heap.size [] (max 1 (min n 15)) ∧ w.grownBy w' none := by
  go_enter Try.func8, Try.ntmps8
  go_wp2
  go_ret
  refine ⟨rfl, ⟨List.replicate 15 0, Blk.new _ _ _, by simp, by omega, by omega, by simp; omega⟩, gb_alloc (gb_refl _ _) _⟩

theorem clear_any (b : Nat) (vals : List Int) (most : Int) (w : World) (hb : FiAt w b vals most) :
    Calls Try.prog 16 #[.pointer (some ⟨b, 0, none⟩)] w fun e w' => e = .returned (.tuple #[]) ∧ FiAt w' b [] most ∧ w.grownBy w' (some b) := by
  obtain ⟨junk, hI, hl, h1, h2, h3⟩ := hb
  have hc : w.cell? ⟨b, 15, none⟩ = some (.int .i64 vals.length) := by
    have := Ints.cell hI (i := 15) (by simp; omega)
    rw [this]
    have e : (vals ++ junk).length = 15 := by simp; omega
    rw [List.getD_eq_getElem?_getD, List.getElem?_append_right (by omega), e]
    rfl
  have hf := Blk.free hI 15
  go_enter Try.func16, Try.ntmps16
  go_wp2
  go_end0
  refine ⟨rfl, ⟨vals ++ junk, ?_, by simp; omega, h1, h2, by simp; omega⟩, gb_set (gb_refl _ _) _ _⟩
  have := Ints.set hI 15 0
  have e : (vals ++ junk ++ [(vals.length : Int), most]).set 15 0 = [] ++ (vals ++ junk) ++ [(([] : List Int).length : Int), most] := by
    have e2 : (vals ++ junk).length = 15 := by simp; omega
    rw [List.set_append_right _ _ (by omega), e2]
    rfl
  rw [e] at this
  exact this

set_option maxRecDepth 100000 in
theorem median_any (b : Nat) (vals : List Int) (most : Int) (w : World) (hb : FiAt w b vals most) (hne : 0 < vals.length) :
    Calls Try.prog 12 #[.pointer (some ⟨b, 0, none⟩)] w fun e w' => e = .returned (.tuple #[.int .i64 ((srt vals).getD ((vals.length - 1) / 2) 0), .bool true]) ∧ w.grownBy w' none := by
  obtain ⟨junk, hI, hl, h1, h2, h3⟩ := hb
  have e15 : (vals ++ junk).length = 15 := by simp; omega
  have hc : w.cell? ⟨b, 15, none⟩ = some (.int .i64 vals.length) := by
    rw [Ints.cell hI (i := 15) (by simp; omega), List.getD_eq_getElem?_getD, List.getElem?_append_right (by omega), e15]
    rfl
  have t0 : ((vals.length : Int) == 0) = false := by rw [beq_eq_false_iff_ne]; omega
  have HE := hide e15
  have HL := hide hl
  have hn15 : vals.length ≤ 15 := by omega
  clear e15 hl
  go_enter Try.func12, Try.ntmps12
  go_wp2_with fail
  have hlt := Blk.lt hI
  have HNE := hide (show b ≠ w.heap.size by omega)
  have hI1 : Ints (w.alloc (.cells #[.int .i64 0, .int .i64 0, .int .i64 0, .int .i64 0, .int .i64 0, .int .i64 0, .int .i64 0, .int .i64 0, .int .i64 0, .int .i64 0, .int .i64 0, .int .i64 0, .int .i64 0, .int .i64 0, .int .i64 0] 41)) b 43 _ := Blk.alloc hI _
  have hA1 : Ints (w.alloc (.cells #[.int .i64 0, .int .i64 0, .int .i64 0, .int .i64 0, .int .i64 0, .int .i64 0, .int .i64 0, .int .i64 0, .int .i64 0, .int .i64 0, .int .i64 0, .int .i64 0, .int .i64 0, .int .i64 0, .int .i64 0] 41)) w.heap.size 41 (List.replicate 15 0) := Blk.new _ _ _
  have hg1 := gb_alloc (gb_refl w none) (.cells #[.int .i64 0, .int .i64 0, .int .i64 0, .int .i64 0, .int .i64 0, .int .i64 0, .int .i64 0, .int .i64 0, .int .i64 0, .int .i64 0, .int .i64 0, .int .i64 0, .int .i64 0, .int .i64 0, .int .i64 0] 41)
  generalize w.alloc (.cells #[.int .i64 0, .int .i64 0, .int .i64 0, .int .i64 0, .int .i64 0, .int .i64 0, .int .i64 0, .int .i64 0, .int .i64 0, .int .i64 0, .int .i64 0, .int .i64 0, .int .i64 0, .int .i64 0, .int .i64 0] 41) = w1 at *
  have hc : w1.cell? ⟨b, 15, none⟩ = some (.int .i64 vals.length) := by
    rw [Ints.cell hI1 (i := 15) (by simp; have := HE.out; simp at this; omega), List.getD_eq_getElem?_getD, List.getElem?_append_right (by rw [HE.out]; omega), HE.out]
    rfl
  have b0 : (0 : Int) ≤ (vals.length : Int) := by omega
  have b1 : (vals.length : Int) ≤ 15 := by omega
  go_region
  go_wp2_with fail
  have hX : Ints w1.drew b 43 (vals ++ junk ++ [(vals.length : Int), most]) := hI1
  have hY : Ints w1.drew w.heap.size 41 (List.replicate 15 0) := hA1
  have hg2 := gb_drew hg1
  generalize w1.drew = w2 at *
  clear hI1 hA1 hg1 hc hlt
  go_loopw [22] (fun i wr => ∃ (k : Nat) (L : List Int), i = .int .i64 k ∧ k ≤ vals.length ∧ L.length = 15 ∧ L.take k = srt (vals.take k) ∧ Ints wr b 43 (vals ++ junk ++ [(vals.length : Int), most]) ∧ Ints wr w.heap.size 41 L ∧ w.grownBy wr none) (fun i _ => vals.length - (intOf i).toNat)
  case atStart => exact ⟨0, _, rfl, by omega, by simp, rfl, hX, hY, hg2⟩
  case round =>
    obtain ⟨k, L, rfl, hk, hL, hS, hI2, hA2, hg3⟩ := hrel
    clear hX hY hg2
    have HLn := hide hL
    have HS := hide hS
    clear hL hS
    by_cases hlt : k < vals.length
    · have hv : wr.cell? ⟨b, k, none⟩ = some (.int .i64 (vals.getD k 0)) := by
        rw [Ints.cell hI2 (i := k) (by simp; omega)]
        congr 2
        rw [List.append_assoc, List.getD_eq_getElem?_getD, List.getElem?_append_left hlt, List.getD_eq_getElem?_getD]
      have hkk : (k : Int) < (vals.length : Int) := by omega
      obtain ⟨v, HV⟩ : ∃ v, Hid (vals.getD k 0 = v) := ⟨_, hide rfl⟩
      rw [HV.out] at hv
      go_wp2_with fail
      clear hv
      have hv14 : k ≤ 14 := by omega
      go_loop [7] (fun x => ∃ j : Nat, x = .int .i64 j ∧ j ≤ k ∧ ∀ m, m < j → L.getD m 0 ≤ v) (fun x => k - (intOf x).toNat)
      case atStart => exact ⟨0, rfl, by omega, fun m h => by omega⟩
      case round =>
        obtain ⟨j, rfl, hj, hall⟩ := hrel
        have HALL := hide hall
        clear hall
        by_cases hjk : j < k
        · have hlj : wr.cell? ⟨w.heap.size, j, none⟩ = some (.int .i64 (L.getD j 0)) := Ints.cell hA2 (by rw [HLn.out]; omega)
          have hj15 : (j : Int) < 15 := by omega
          obtain ⟨x, HX⟩ : ∃ x, Hid (L.getD j 0 = x) := ⟨_, hide rfl⟩
          rw [HX.out] at hlj
          have hjk' : (j : Int) < (k : Int) := by omega
          by_cases hle : x ≤ v
          · go_wp2_with fail
            exact ⟨⟨j + 1, by simp, by omega, fun m hm => if h : m < j then HALL.out m h else by rw [show m = j from by omega, HX.out]; exact hle⟩, by simp [intOf]; omega⟩
          · have hle' : ¬ x ≤ v := hle
            go_wp2_with fail
            have i3 : (j : Int) ≤ (k : Int) := by omega
            have i4 : (k : Int) ≤ 15 := by omega
            have i5 : (0 : Int) ≤ (j : Int) + 1 := by omega
            have i6 : (j : Int) + 1 ≤ (k : Int) + 1 := by omega
            have i7 : (k : Int) + 1 ≤ 15 := by omega
            have i9 : (0 : Int) ≤ (j : Int) := by omega
            have i10 : (0 : Int) ≤ (k : Int) + 1 := by omega
            have z1 : ¬ j = 14 := by omega
            have hcp := fun ty => copy_ints (ty := ty) hA2.drew (j + 1) j (k - j) (14 - j) (k - j) (15 - j) (by rw [HLn.out]; omega) (by rw [HLn.out]; omega) (by omega)
            have HX2 := HLn.out
            have HLM : Hid ((L.take (j + 1) ++ (L.drop j).take (k - j) ++ L.drop (j + 1 + (k - j))).length = 15) := hide (by simp; omega)
            have HSH := hide (shift_ins L j k v (by omega) (by omega))
            clear HX2
            generalize (L.take (j + 1) ++ (L.drop j).take (k - j) ++ L.drop (j + 1 + (k - j))) = M at *
            go_region
            clear hcp
            have hA3 := setRow_ints hA2.drew M
            have hI3 := setRow_other hI2.drew HNE.out ((M.map iv).toArray)
            have hg4 : w.grownBy _ none := gb_setRow (row := none) (gb_drew hg3) (Nat.le_refl _) ((M.map iv).toArray)
            clear hI2 hA2 hg3
            generalize wr.drew.setRow w.heap.size ((M.map iv).toArray) = w3 at *
            have hat := Ints.cell hA3 (i := j) (by rw [HLM.out]; omega)
            have haf := Blk.free hA3 j
            go_wp2_with fail
            refine ⟨⟨k + 1, M.set j v, by simp, by omega, by simp [HLM.out], ?_, setCell_other hI3 HNE.out _ _, hA3.set j v, gb_young hg4 (gb_set (gb_refl _ _) _ _) (Nat.le_refl _)⟩, by simp [intOf]; omega⟩
            rw [srt_succ vals k hlt, ← HS.out, HV.out, HSH.out]
            have hl := HLn.out
            unfold ins
            rw [insAt_take L k j v (by omega) (by omega) HALL.out (fun _ => by rw [HX.out]; omega)]
        · go_wp2_with fail
          have i3 : (j : Int) ≤ (k : Int) := by omega
          have i4 : (k : Int) ≤ 15 := by omega
          have i5 : (0 : Int) ≤ (j : Int) + 1 := by omega
          have i6 : (j : Int) + 1 ≤ (k : Int) + 1 := by omega
          have i7 : (k : Int) + 1 ≤ 15 := by omega
          have i9 : (0 : Int) ≤ (j : Int) := by omega
          have i10 : (0 : Int) ≤ (k : Int) + 1 := by omega
          obtain rfl : j = k := by omega
          have z1 : j - j = 0 := by omega
          have hcp := fun ty a c a' c' => copy_none wr.drew ty a a' c c'
          go_region
          clear hcp
          have hI3 : Ints wr.drew b 43 (vals ++ junk ++ [(vals.length : Int), most]) := hI2
          have hA3 : Ints wr.drew w.heap.size 41 L := hA2
          have hg4 := gb_drew hg3
          clear hI2 hA2 hg3
          generalize wr.drew = w3 at *
          have hat := Ints.cell hA3 (i := j) (by rw [HLn.out]; omega)
          have haf := Blk.free hA3 j
          go_wp2_with fail
          refine ⟨⟨j + 1, L.set j v, by simp, by omega, by simp [HLn.out], ?_, setCell_other hI3 HNE.out _ _, hA3.set j v, gb_young hg4 (gb_set (gb_refl _ _) _ _) (Nat.le_refl _)⟩, by simp [intOf]; omega⟩
          have hl := HLn.out
          rw [srt_succ vals j hlt, ← HS.out, HV.out, take_ins L j v (by omega)]
          unfold ins
          rw [insAt_take L j j v (by omega) (by omega) HALL.out (fun h => absurd h (by omega))]
          rw [show (L.take j).take j = L.take j from by rw [List.take_take, Nat.min_self], show (L.take j).drop j = [] from List.drop_eq_nil_of_le (by simp; omega)]
    · have hke : k = vals.length := by omega
      have hc : wr.cell? ⟨b, 15, none⟩ = some (.int .i64 vals.length) := by
        rw [Ints.cell hI2 (i := 15) (by simp; have := HE.out; simp at this; omega), List.getD_eq_getElem?_getD, List.getElem?_append_right (by rw [HE.out]; omega), HE.out]
        rfl
      obtain ⟨m, HM⟩ : ∃ m, Hid ((vals.length - 1) / 2 = m) := ⟨_, hide rfl⟩
      have q1 : (((vals.length : Int) - 1).tdiv 2) = (m : Int) := by
        have := HM.out
        rw [Int.tdiv_eq_ediv_of_nonneg (by omega)]
        omega
      have q2 : m < 15 := by have := HM.out; omega
      have hm : wr.cell? ⟨w.heap.size, m, none⟩ = some (.int .i64 (L.getD m 0)) := Ints.cell hA2 (by rw [HLn.out]; omega)
      have HR : Hid (L.getD m 0 = (srt vals).getD m 0) := hide (by
        have h := HS.out
        rw [hke, List.take_of_length_le (Nat.le_refl _)] at h
        rw [← h, getD_take _ _ _ (by have := HM.out; omega)])
      rw [HR.out] at hm
      have HP := hide (show (srt vals).getD ((vals.length - 1) / 2) 0 = (srt vals).getD m 0 by rw [HM.out])
      revert hm HP
      generalize (srt vals).getD m 0 = r
      intro hm HP
      clear HR
      go_wp2_with fail
      go_ret2
      rw [HP.out]
      first
        | exact ⟨rfl, hg3⟩
        | exact ⟨rfl, gb_drew hg3⟩

theorem median_none (b : Nat) (most : Int) (w : World) (hb : FiAt w b [] most) :
    Calls Try.prog 12 #[.pointer (some ⟨b, 0, none⟩)] w fun e w' => e = .returned (.tuple #[.int .i64 0, .bool false]) ∧ w = w' := by
  obtain ⟨junk, hI, hl, h1, h2, h3⟩ := hb
  have hc : w.cell? ⟨b, 15, none⟩ = some (.int .i64 0) := by
    rw [Ints.cell hI (i := 15) (by simp; simp at hl; omega), List.nil_append, List.getD_eq_getElem?_getD, List.getElem?_append_right (by simp at hl; omega), show junk.length = 15 by simpa using hl]
    rfl
  go_enter Try.func12, Try.ntmps12
  go_wp2_with fail
  go_ret2
  exact ⟨rfl, rfl⟩

/-- What a filter holds when one more has come. -/
def put (vals : List Int) (most : Int) (v : Int) : List Int := (if (vals.length : Int) = most then vals.tail else vals) ++ [v]
def mid (l : List Int) : Int := (srt l).getD ((l.length - 1) / 2) 0

theorem copy_ints2 {w : World} {b : Nat} {t ty : TypeId} {L : List Int} (h : Ints w b t L) (o s d n c c' : Nat) (h1 : o + n ≤ L.length) (h2 : s + n ≤ L.length) (hn : n ≤ d) :
    (Builtin.copy_ #[22, 22] ty #[.slice (some ⟨b, o, none⟩) d c, .slice (some ⟨b, s, none⟩) n c']).run Try.prog w = .ok (goInt n) (w.setRow b (((L.take o ++ (L.drop s).take n ++ L.drop (o + n)).map iv).toArray)) := by
  have hl : (((L.drop s).take n).map iv).length = n := by simp; omega
  have := run_copy_row (P := Try.prog) w 22 22 ty _ b o d c ⟨b, s, none⟩ n c' _ t (((L.drop s).take n).map iv) Try.underlying22 (by kernel_rfl) h (by rw [hl]; exact (Nat.min_eq_left hn).symm) (fun j v hj => ?_) (by rw [hl]; simp; omega) (by intro v hv; simp only [List.mem_map] at hv; obtain ⟨x, _, rfl⟩ := hv; rfl)
  · rw [this, hl]
    congr 3
    simp [List.map_take, List.map_drop]
  · rw [List.getElem?_map, List.getElem?_take] at hj
    split at hj
    · rename_i hjn
      rw [show (({ block := b, off := s } : Addr).add j) = ⟨b, s + j, none⟩ from by unfold Addr.add; split <;> simp_all, Blk.cell h]
      rw [List.getElem?_drop] at hj
      simpa using hj
    · simp at hj

theorem median_all (b : Nat) (vals : List Int) (most : Int) (w : World) (hb : FiAt w b vals most) (hne : 0 < vals.length) :
    Calls Try.prog 12 #[.pointer (some ⟨b, 0, none⟩)] w fun e w' => e = .returned (.tuple #[.int .i64 (mid vals), .bool true]) ∧ w.grownBy w' none := median_any b vals most w hb hne
theorem gb_undrew2 {a w : World} {row : Option Nat} (h : a.grownBy w.drew row) : a.grownBy w row := ⟨h.os, h.tape, h.output, h.size, h.block⟩

set_option maxRecDepth 100000 in
theorem put_any (b : Nat) (vals : List Int) (most v : Int) (w : World) (hb : FiAt w b vals most) :
    Calls Try.prog 11 #[.pointer (some ⟨b, 0, none⟩), .int .i64 v] w fun e w' => e = .returned (.int .i64 (mid (put vals most v))) ∧ FiAt w' b (put vals most v) most ∧ w.grownBy w' (some b) := by
  obtain ⟨junk, hI, hl, h1, h2, h3⟩ := hb
  have e15 : (vals ++ junk).length = 15 := by simp; omega
  have hc : w.cell? ⟨b, 15, none⟩ = some (.int .i64 vals.length) := by
    rw [Ints.cell hI (i := 15) (by simp; omega), List.getD_eq_getElem?_getD, List.getElem?_append_right (by omega), e15]
    rfl
  have hc2 : w.cell? ⟨b, 16, none⟩ = some (.int .i64 most) := by
    rw [Ints.cell hI (i := 16) (by simp; omega), List.getD_eq_getElem?_getD, List.getElem?_append_right (by omega), e15]
    rfl
  by_cases hfull : (vals.length : Int) = most
  · obtain ⟨x, vs, rfl⟩ : ∃ x vs, vals = x :: vs := by
      cases vals with
      | nil => simp at hfull; omega
      | cons x vs => exact ⟨x, vs, rfl⟩
    obtain ⟨n, HN⟩ : ∃ n : Nat, Hid ((x :: vs).length = n) := ⟨_, hide rfl⟩
    have hn : vs.length + 1 = n := by have := HN.out; simpa using this
    rw [HN.out] at hfull hc hI hl h3
    subst hfull
    have hput : put (x :: vs) (n : Int) v = vs ++ [v] := by unfold put; rw [if_pos (by rw [HN.out])]; rfl
    rw [hput]
    clear hput
    have hcp := fun ty => copy_ints2 (ty := ty) (hI.drew.drew : Ints w.drew.drew b 43 _) 0 1 15 (n - 1) 15 14 (by simp; omega) (by simp; omega) (by omega)
    obtain ⟨j0, hj0⟩ : ∃ j0, (x :: vs).drop vs.length = [j0] := by
      have hl : ((x :: vs).drop vs.length).length = 1 := by simp
      match h : (x :: vs).drop vs.length, hl with
      | [j0], _ => exact ⟨j0, rfl⟩
    have eM : (x :: vs ++ junk ++ [(n : Int), (n : Int)]).take 0 ++ ((x :: vs ++ junk ++ [(n : Int), (n : Int)]).drop 1).take (n - 1) ++ (x :: vs ++ junk ++ [(n : Int), (n : Int)]).drop (0 + (n - 1)) = vs ++ j0 :: junk ++ [(n : Int), (n : Int)] := by
      have e1 : n - 1 = vs.length := by omega
      rw [e1, Nat.zero_add, List.take_zero, List.nil_append]
      have e2 : (x :: vs ++ junk ++ [(n : Int), (n : Int)]).drop vs.length = j0 :: junk ++ [(n : Int), (n : Int)] := by
        rw [List.append_assoc, List.drop_append_of_le_length (by simp), hj0]
        rfl
      rw [e2]
      simp
    rw [eM] at hcp
    obtain ⟨M, HM⟩ : ∃ M, Hid (vs ++ j0 :: junk ++ [(n : Int), (n : Int)] = M) := ⟨_, hide rfl⟩
    rw [HM.out] at hcp
    have hjl : vs.length + junk.length = 14 := by omega
    have hlm : (vs.length : Int) < (n : Int) := by omega
    have HB := hide hI
    clear hI e15 hj0 eM
    have b1 : (1 : Int) ≤ (n : Int) := by omega
    have b2 : (n : Int) ≤ 15 := by omega
    obtain ⟨js, rfl⟩ : ∃ js, js = junk := ⟨_, rfl⟩
    have HPUT := hide (show vs ++ [v] = vs ++ [v] from rfl)
    go_enter Try.func11, Try.ntmps11
    go_wp2_with fail
    go_region
    go_wp2_with fail
    go_region
    clear hcp hc hc2
    have HM2 : Hid (Ints (w.drew.drew.setRow b ((M.map iv).toArray)) b 43 (vs ++ j0 :: js ++ [(n : Int), (n : Int)])) := hide (by
      rw [HM.out]
      exact setRow_ints (HB.out.drew.drew : Ints w.drew.drew b 43 _) M)
    have HG1 : Hid (w.grownBy (w.drew.drew.setRow b ((M.map iv).toArray)) (some b)) := hide (gb_trans (gb_drew (gb_drew (gb_refl w (some b)))) ⟨rfl, rfl, rfl, by simp [World.setRow], fun k hk hne => by
      simp only [World.setRow, Array.getElem?_modify]
      rw [if_neg (fun e => hne (by rw [e]))]⟩)
    generalize w.drew.drew.setRow b ((M.map iv).toArray) = W0 at *
    have cc : W0.cell? ⟨b, 15, none⟩ = some (.int .i64 n) := by
      rw [Ints.cell HM2.out (i := 15) (by simp; omega), List.getD_eq_getElem?_getD, List.getElem?_append_right (by simp; omega), show (vs ++ j0 :: js).length = 15 from by simp; omega]
      rfl
    have cf : W0.frozen? ⟨b, 15, none⟩ = false := Blk.free HM2.out _
    go_wp2_with fail
    have HI : Hid (Ints (W0.setCell ⟨b, 15, none⟩ (.int .i64 ((n : Int) - 1))) b 43 (vs ++ j0 :: js ++ [(vs.length : Int), (n : Int)])) := hide (by
      have := Ints.set HM2.out 15 ((n : Int) - 1)
      have e : (vs ++ j0 :: js ++ [(n : Int), (n : Int)]).set 15 ((n : Int) - 1) = vs ++ j0 :: js ++ [(vs.length : Int), (n : Int)] := by
        rw [List.set_append_right _ _ (by simp; omega), show 15 - (vs ++ j0 :: js).length = 0 from by simp; omega]
        simp
        omega
      rw [e] at this
      exact this)
    have HG : Hid (w.grownBy (W0.setCell ⟨b, 15, none⟩ (.int .i64 ((n : Int) - 1))) (some b)) := hide (gb_set HG1.out _ _)
    clear cc cf
    generalize W0.setCell ⟨b, 15, none⟩ (.int .i64 ((n : Int) - 1)) = W at *
    have cc : W.cell? ⟨b, 15, none⟩ = some (.int .i64 vs.length) := by
      rw [Ints.cell HI.out (i := 15) (by simp; omega), List.getD_eq_getElem?_getD, List.getElem?_append_right (by simp; omega), show (vs ++ j0 :: js).length = 15 from by simp; omega]
      rfl
    have cd : W.cell? ⟨b, vs.length, none⟩ = some (.int .i64 j0) := by
      rw [Ints.cell HI.out (i := vs.length) (by simp), List.getD_eq_getElem?_getD, List.append_assoc, List.getElem?_append_right (by omega)]
      simp
    have cf : W.frozen? ⟨b, vs.length, none⟩ = false := Blk.free HI.out _
    have g0 : (0 : Int) ≤ (vs.length : Int) := by omega
    have g1 : (vs.length : Int) < 15 := by omega
    go_region
    have HI2 : Hid (Ints (W.setCell ⟨b, vs.length, none⟩ (.int .i64 v)).drew b 43 ((vs ++ [v]) ++ js ++ [(vs.length : Int), (n : Int)])) := hide (by
      have := Ints.set HI.out vs.length v
      have e : (vs ++ j0 :: js ++ [(vs.length : Int), (n : Int)]).set vs.length v = (vs ++ [v]) ++ js ++ [(vs.length : Int), (n : Int)] := by simp
      rw [e] at this
      exact this)
    have HG2 : Hid (w.grownBy (W.setCell ⟨b, vs.length, none⟩ (.int .i64 v)).drew (some b)) := hide (gb_drew (gb_set HG.out _ _))
    have cc : (W.setCell ⟨b, vs.length, none⟩ (.int .i64 v)).drew.cell? ⟨b, 15, none⟩ = some (.int .i64 vs.length) := by
      rw [Ints.cell HI2.out (i := 15) (by simp; omega), List.getD_eq_getElem?_getD, List.getElem?_append_right (by simp; omega), show (vs ++ [v] ++ js).length = 15 from by simp; omega]
      rfl
    have cf : (W.setCell ⟨b, vs.length, none⟩ (.int .i64 v)).drew.frozen? ⟨b, 15, none⟩ = false := Blk.free HI2.out _
    clear cd HI HG
    go_wp2_with fail
    have HF : FiAt ((W.setCell ⟨b, vs.length, none⟩ (.int .i64 v)).setCell ⟨b, 15, none⟩ (.int .i64 ((vs.length : Int) + 1))).drew b (vs ++ [v]) (n : Int) := by
      refine ⟨js, ?_, by simp; omega, h1, h2, by simp; omega⟩
      have := Ints.set HI2.out 15 ((vs.length : Int) + 1)
      have e : ((vs ++ [v]) ++ js ++ [(vs.length : Int), (n : Int)]).set 15 ((vs.length : Int) + 1) = (vs ++ [v]) ++ js ++ [((vs ++ [v]).length : Int), (n : Int)] := by
        rw [List.set_append_right _ _ (by simp; omega), show 15 - ((vs ++ [v]) ++ js).length = 0 from by simp; omega]
        simp
      rw [e] at this
      exact this
    have HG3 : Hid (w.grownBy ((W.setCell ⟨b, vs.length, none⟩ (.int .i64 v)).setCell ⟨b, 15, none⟩ (.int .i64 ((vs.length : Int) + 1))).drew (some b)) := hide (gb_drew (gb_set (gb_undrew2 HG2.out) _ _))
    clear cc cf HI2 HG2
    generalize ((W.setCell ⟨b, vs.length, none⟩ (.int .i64 v)).setCell ⟨b, 15, none⟩ (.int .i64 ((vs.length : Int) + 1))).drew = W3 at *
    refine (median_all b (vs ++ [v]) (n : Int) W3 HF (by simp)).mono ?_
    rintro e w' ⟨rfl, hg⟩
    have HF2 : Hid (FiAt w' b (vs ++ [v]) (n : Int)) := hide (by
      obtain ⟨jj, hJ, rest⟩ := HF
      exact ⟨jj, Blk.other hJ hg (by simp), rest⟩)
    have HG4 : Hid (w.grownBy w' (some b)) := hide (gb_trans HG3.out (gb_any hg))
    go_wp2_with fail
    go_ret
    exact ⟨rfl, HF2.out, HG4.out⟩
  · obtain ⟨vs, rfl⟩ : ∃ vs, vs = vals := ⟨_, rfl⟩
    have t0 : ((vs.length : Int) == most) = false := by rw [beq_eq_false_iff_ne]; exact hfull
    obtain ⟨j0, js, rfl⟩ : ∃ j0 js, junk = j0 :: js := by
      cases junk with
      | nil => simp at hl; omega
      | cons x vs => exact ⟨x, vs, rfl⟩
    have HPUT := hide (show put vs most v = vs ++ [v] by unfold put; rw [if_neg hfull])
    have hjl : vs.length + js.length = 14 := by simp at hl; omega
    have hlm : (vs.length : Int) < most := by omega
    have HI := hide (Blk.drew hI : Ints w.drew b 43 _)
    have HG := hide (gb_drew (gb_refl w (some b)))
    clear hfull hI e15 hl h3
    go_enter Try.func11, Try.ntmps11
    go_wp2_with fail
    go_region
    go_wp2_with fail
    clear hc hc2 t0
    generalize w.drew = W at *
    have cc : W.cell? ⟨b, 15, none⟩ = some (.int .i64 vs.length) := by
      rw [Ints.cell HI.out (i := 15) (by simp; omega), List.getD_eq_getElem?_getD, List.getElem?_append_right (by simp; omega), show (vs ++ j0 :: js).length = 15 from by simp; omega]
      rfl
    have cd : W.cell? ⟨b, vs.length, none⟩ = some (.int .i64 j0) := by
      rw [Ints.cell HI.out (i := vs.length) (by simp), List.getD_eq_getElem?_getD, List.append_assoc, List.getElem?_append_right (by omega)]
      simp
    have cf : W.frozen? ⟨b, vs.length, none⟩ = false := Blk.free HI.out _
    have g0 : (0 : Int) ≤ (vs.length : Int) := by omega
    have g1 : (vs.length : Int) < 15 := by omega
    go_region
    have HI2 : Hid (Ints (W.setCell ⟨b, vs.length, none⟩ (.int .i64 v)).drew b 43 ((vs ++ [v]) ++ js ++ [(vs.length : Int), most])) := hide (by
      have := Ints.set HI.out vs.length v
      have e : (vs ++ j0 :: js ++ [(vs.length : Int), most]).set vs.length v = (vs ++ [v]) ++ js ++ [(vs.length : Int), most] := by simp
      rw [e] at this
      exact this)
    have HG2 : Hid (w.grownBy (W.setCell ⟨b, vs.length, none⟩ (.int .i64 v)).drew (some b)) := hide (gb_drew (gb_set HG.out _ _))
    have cc : (W.setCell ⟨b, vs.length, none⟩ (.int .i64 v)).drew.cell? ⟨b, 15, none⟩ = some (.int .i64 vs.length) := by
      rw [Ints.cell HI2.out (i := 15) (by simp; omega), List.getD_eq_getElem?_getD, List.getElem?_append_right (by simp; omega), show (vs ++ [v] ++ js).length = 15 from by simp; omega]
      rfl
    have cf : (W.setCell ⟨b, vs.length, none⟩ (.int .i64 v)).drew.frozen? ⟨b, 15, none⟩ = false := Blk.free HI2.out _
    clear cd HI HG
    go_wp2_with fail
    have HF : FiAt ((W.setCell ⟨b, vs.length, none⟩ (.int .i64 v)).setCell ⟨b, 15, none⟩ (.int .i64 ((vs.length : Int) + 1))).drew b (vs ++ [v]) most := by
      refine ⟨js, ?_, by simp; omega, h1, h2, by simp; omega⟩
      have := Ints.set HI2.out 15 ((vs.length : Int) + 1)
      have e : ((vs ++ [v]) ++ js ++ [(vs.length : Int), most]).set 15 ((vs.length : Int) + 1) = (vs ++ [v]) ++ js ++ [((vs ++ [v]).length : Int), most] := by
        rw [List.set_append_right _ _ (by simp; omega), show 15 - ((vs ++ [v]) ++ js).length = 0 from by simp; omega]
        simp
      rw [e] at this
      exact this
    have HG3 : Hid (w.grownBy ((W.setCell ⟨b, vs.length, none⟩ (.int .i64 v)).setCell ⟨b, 15, none⟩ (.int .i64 ((vs.length : Int) + 1))).drew (some b)) := hide (gb_drew (gb_set (gb_undrew2 HG2.out) _ _))
    clear cc cf HI2 HG2
    generalize ((W.setCell ⟨b, vs.length, none⟩ (.int .i64 v)).setCell ⟨b, 15, none⟩ (.int .i64 ((vs.length : Int) + 1))).drew = W3 at *
    refine (median_all b (vs ++ [v]) most W3 HF (by simp)).mono ?_
    rintro e w' ⟨rfl, hg⟩
    have HF2 : Hid (FiAt w' b (vs ++ [v]) most) := hide (by
      obtain ⟨jj, hJ, rest⟩ := HF
      exact ⟨jj, Blk.other hJ hg (by simp), rest⟩)
    have HG4 : Hid (w.grownBy w' (some b)) := hide (gb_trans HG3.out (gb_any hg))
    go_wp2_with fail
    go_ret
    rw [HPUT.out]
    exact ⟨rfl, HF2.out, HG4.out⟩
end Go.Proofs.Ytadabpkfkdbafaa
