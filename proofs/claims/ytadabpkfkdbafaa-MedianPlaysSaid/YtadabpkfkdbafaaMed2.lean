/- Place, awake, Values, SameInts. -/
import Derived.Test.YtadabpkfkdbafaaMed
import Derived.Deep.AppendLies
import Derived.Deep.RegionLaw
import Derived.OwnWalk
namespace Go.Proofs.Ytadabpkfkdbafaa
open Go.RowKit
attribute [local go_sem] max_two min_two max2_max min2_min

theorem emod_of_tmod {v n : Int} (hn : 0 < n) : (v.tmod n < 0 → v.tmod n + n = v % n) ∧ (0 ≤ v.tmod n → v.tmod n = v % n) := by
  have h1 := Int.tmod_add_mul_tdiv v n
  have h2 := Int.emod_add_mul_ediv v n
  have h3 := Int.emod_nonneg v (b := n) (by omega)
  have h4 := Int.emod_lt_of_pos v hn
  constructor
  · intro h
    rw [Int.tmod_eq_emod] at h ⊢
    split at h <;> rename_i hc
    · omega
    · rw [if_neg hc]
      omega
  · intro h
    rw [Int.tmod_eq_emod] at h ⊢
    split at h <;> rename_i hc
    · rw [if_pos hc]; simp
    · omega

theorem place_any (v n : Int) (w : World) (hn0 : 0 < n) (hn1 : n ≤ 4611686018427387904) :
    Calls Try.prog 9 #[.int .i64 v, .int .i64 n] w fun e w' => e = .returned (.int .i64 (v % n)) ∧ w = w' := by
  have h1 := (emod_of_tmod (v := v) hn0).1
  have h2 := (emod_of_tmod (v := v) hn0).2
  have h3 := Int.emod_nonneg v (b := n) (by omega)
  have h4 := Int.emod_lt_of_pos v hn0
  have H1 := hide h1; clear h1
  have H2 := hide h2; clear h2
  go_enter Try.func9, Try.ntmps9
  go_wp2
  · go_ret
    refine ⟨ret_int ?_, rfl⟩
    have h : v.tmod n < 0 := by assumption
    rw [H1.out h]
    unfold wrap64
    omega
  · go_ret
    refine ⟨ret_int ?_, rfl⟩
    exact H2.out (by assumption)

set_option maxRecDepth 100000 in
theorem awake_any (w : World) : Calls Try.prog 10 #[] w fun e w' => e = .returned (.bool true) ∧ w.grownBy w' none := by
  go_enter Try.func10, Try.ntmps10
  go_wp2_with fail
  refine (new_any _ _).mono ?_
  rintro e w1 ⟨rfl, h1, hg1⟩
  rw [show max 1 (min (3 : Int) 15) = 3 from rfl] at h1
  go_wp2_with fail
  refine (put_any _ _ _ _ _ h1).mono ?_
  rintro e w2 ⟨rfl, h2, hg2⟩
  rw [show put [] 3 5 = [5] from rfl] at h2 ⊢
  rw [show mid [5] = 5 from by decide]
  replace hg2 := gb_young hg1 hg2 (Nat.le_refl _)
  clear h1 hg1
  go_wp2_with fail
  refine (put_any _ _ _ _ _ h2).mono ?_
  rintro e w3 ⟨rfl, h3, hg3⟩
  rw [show put [5] 3 9 = [5, 9] from rfl] at h3 ⊢
  rw [show mid [5, 9] = 5 from by decide]
  replace hg3 := gb_young hg2 hg3 (Nat.le_refl _)
  clear h2 hg2
  go_wp2_with fail
  refine (put_any _ _ _ _ _ h3).mono ?_
  rintro e w4 ⟨rfl, h4, hg4⟩
  rw [show put [5, 9] 3 1 = [5, 9, 1] from rfl] at h4 ⊢
  rw [show mid [5, 9, 1] = 5 from by decide]
  replace hg4 := gb_young hg3 hg4 (Nat.le_refl _)
  clear h3 hg3
  go_wp2_with fail
  refine (put_any _ _ _ _ _ h4).mono ?_
  rintro e w5 ⟨rfl, h5, hg5⟩
  rw [show put [5, 9, 1] 3 2 = [9, 1, 2] from rfl] at h5 ⊢
  rw [show mid [9, 1, 2] = 2 from by decide]
  replace hg5 := gb_young hg4 hg5 (Nat.le_refl _)
  clear h4 hg4
  go_wp2_with fail
  go_ret
  exact ⟨rfl, hg5⟩

/-- An append to one's own row, at a step of a region that draws its order. -/
theorem step_append_own {P : Program} (w : World) {ops : Array Oper} {o : Oper} {a : Act} {K : Act → World → Prop} {Q : Exit → Act → World → Prop} {E : Prop} (hgd : o.guard = none) (s x : Operand) (t : TypeId)
    (ho : o.op = .call { callee := .builtin .append, args := #[s, x], argTypes := #[t, t] })
    (base : Nat) (e : TypeId) (i : TypeInfo) (z : Value) (size bytes : Nat) (ht : P.underlying t = some (.slice e)) (hi : P.info? e = some i) (hz : i.zero = some z)
    (hsize : i.size = size) (hby : i.bytes = bytes) (hzs : z.cells.size = size) (hsz : 0 < size)
    (v : Value) (n : Nat) (xs : List Value) (hs : a.eval s = v) (hown : w.ownsRow base e size v n xs)
    (ad : Addr) (m c : Nat) (news : List Value) (hx : a.eval x = .slice (some ad) m c) (hl : news.length = m * size) (hnews : ∀ j u, news[j]? = some u → w.cell? (ad.add j) = some u) (h1 : ∀ u ∈ news, u.oneCell' = true)
    (h63 : n + m ≤ maxLen) (hbytes : (n + m) * bytes ≤ 140737488355328) (hbase : base ≤ w.heap.size)
    (h : ∀ v' w', w'.ownsRow base e size v' (n + m) (xs ++ news) → w.grownBy w' v.ownBlock → (v' = .slice none 0 0 ↔ v = .slice none 0 0 ∧ m = 0) → K (a.put o.dst v') w') :
    if Region.wanted o (yielded ops a.tmps) = true then Oper.wp P o a w K Q else E := by
  have hw : Region.wanted o (yielded ops a.tmps) = true := by simp [Region.wanted, hgd]
  rw [if_pos hw]
  exact wp_append_own w s x t ho base e i z size bytes ht hi hz hsize hby hzs hsz v n xs hs hown ad m c news hx hl hnews h1 h63 hbytes hbase h

theorem Try.info3 : (Try.prog.info? 3).map (fun i => (i.zero, i.size, i.bytes)) = some (some (.int .i64 0), 1, 8) := by kernel_rfl

theorem values_any (b : Nat) (vals : List Int) (most : Int) (w : World) (hb : FiAt w b vals most) :
    Calls Try.prog 13 #[.pointer (some ⟨b, 0, none⟩)] w fun e w' => ∃ v, e = .returned v ∧ w'.ownsRow w.heap.size 3 1 v vals.length (vals.map iv) ∧ w.grownBy w' none := by
  obtain ⟨junk, hI, hl, h1, h2, h3⟩ := hb
  have e15 : (vals ++ junk).length = 15 := by simp; omega
  have hc : w.cell? ⟨b, 15, none⟩ = some (.int .i64 vals.length) := by
    rw [Ints.cell hI (i := 15) (by simp; omega), List.getD_eq_getElem?_getD, List.getElem?_append_right (by omega), e15]
    rfl
  have b0 : (0 : Int) ≤ (vals.length : Int) := by omega
  have b1 : (vals.length : Int) ≤ 15 := by omega
  obtain ⟨i, hi, hz, hs, hb⟩ := info_parts Try.info3
  have hnews : ∀ (j : Nat) (u : Value), (vals.map iv)[j]? = some u → w.drew.cell? ((⟨b, 0, none⟩ : Addr).add j) = some u := fun j u hj => by
    rw [List.getElem?_map] at hj
    have hjl : j < vals.length := by
      rcases Nat.lt_or_ge j vals.length with h | h
      · exact h
      · rw [List.getElem?_eq_none h] at hj; simp at hj
    rw [show (({ block := b, off := 0 } : Addr).add j) = ⟨b, j, none⟩ from by unfold Addr.add; split <;> simp_all, Blk.cell (hI.drew : Blk w.drew b 43 _)]
    rw [List.getElem?_toArray, List.getElem?_map, List.append_assoc, List.getElem?_append_left hjl]
    exact hj
  have h1c : ∀ u ∈ vals.map iv, u.oneCell' = true := by intro u hu; simp only [List.mem_map] at hu; obtain ⟨x, _, rfl⟩ := hu; rfl
  have HN := hide (And.intro hnews h1c)
  have HIs := hide (And.intro hi (And.intro hz (And.intro hs hb)))
  have HV : Hid (vals.length ≤ 15) := hide (by omega)
  have HM := hide (show (vals.map iv).length = vals.length * 1 by simp)
  obtain ⟨own, HO⟩ : ∃ own : World → Value → Nat → List Value → Prop, Hid (own = fun w' v n xs => w'.ownsRow w.heap.size 3 1 v n xs) := ⟨_, hide rfl⟩
  clear hi hz hs hb hnews h1c HO own
  go_enter Try.func13, Try.ntmps13
  go_wp2_with fail
  go_region_law (refine step_append_own _ rfl (.const (.slice none 0 0)) (.tmp 10) 22 rfl w.heap.size 3 i (.int .i64 0) 1 8 Try.underlying22 HIs.out.1 HIs.out.2.1 HIs.out.2.2.1 HIs.out.2.2.2 rfl (by decide) (.slice none 0 0) 0 [] rfl ⟨rfl, .inl ⟨rfl, rfl⟩⟩ ⟨b, 0, none⟩ vals.length 15 (vals.map iv) (by simp [Act.eval, Act.put]) HM.out HN.out.1 HN.out.2 (by have := HV.out; unfold maxLen; omega) (by have := HV.out; omega) (Nat.le_refl _) ?_; intro v' w' hown hg _)
  go_wp2_with fail
  go_ret
  refine ⟨_, rfl, ?_, ?_⟩
  · simpa using hown
  · exact ⟨hg.os, hg.tape, hg.output, hg.size, hg.block⟩
end Go.Proofs.Ytadabpkfkdbafaa
