/- A filter's block is as it was where only another has changed; an owned row of whole numbers, by its cells. -/
import Derived.Test.YtadabpkfkdbafaaMed2
import Derived.Test.YtadabpkfkdbafaaSrt
namespace Go.Proofs.Ytadabpkfkdbafaa
open Go.RowKit

theorem FiAt.keep {w w' : World} {b : Nat} {vals : List Int} {most : Int} {row : Option Nat} (h : FiAt w b vals most) (hg : w.grownBy w' row) (hne : some b ≠ row) : FiAt w' b vals most := by
  obtain ⟨junk, hI, r⟩ := h
  exact ⟨junk, Blk.other hI hg hne, r⟩
theorem FiAt.size {w : World} {b : Nat} {vals : List Int} {most : Int} (h : FiAt w b vals most) : b < w.heap.size := by
  obtain ⟨junk, hI, r⟩ := h
  exact Blk.lt hI
theorem FiAt.few {w : World} {b : Nat} {vals : List Int} {most : Int} (h : FiAt w b vals most) : vals.length ≤ 15 ∧ (vals.length : Int) ≤ most ∧ 1 ≤ most ∧ most ≤ 15 := by
  obtain ⟨junk, hI, r⟩ := h
  omega
theorem own_ints {w : World} {base n : Nat} {v : Value} {l : List Int} (h : w.ownsRow base 3 1 v n (l.map iv)) (hn : 0 < n) (hl : l.length = n) :
    ∃ g cap, v = .slice (some ⟨g, 0, none⟩) n cap ∧ base ≤ g ∧ g < w.heap.size ∧ ∀ i, i < n → w.cell? ⟨g, i, none⟩ = some (.int .i64 (l.getD i 0)) := by
  rcases h.2 with ⟨_, h0⟩ | ⟨g, cap, cur, rfl, hb, hg, hc, hm, hs, ht⟩
  · omega
  · refine ⟨g, cap, rfl, hb, lt_of_block hg, fun i hi => ?_⟩
    have : w.cell? ⟨g, i, none⟩ = cur[i]? := by simp [World.cell?, hg]
    rw [this]
    have e : cur.toList[i]? = (l.map iv)[i]? := by rw [← ht, List.getElem?_take, if_pos (by omega)]
    rw [← Array.getElem?_toList, e, List.getElem?_map, List.getElem?_eq_getElem (by omega), List.getD_eq_getElem?_getD, List.getElem?_eq_getElem (by omega)]
    rfl
theorem put_last (vals : List Int) (most v : Int) : 0 < (put vals most v).length ∧ (put vals most v).getD ((put vals most v).length - 1) 0 = v := by
  unfold put
  simp
theorem awake_from (w w1 : World) (hg : w.grownBy w1 none) : Calls Try.prog 10 #[] w1 fun e w' => e = .returned (.bool true) ∧ Below w.heap.size w w' :=
  (awake_any w1).mono fun _ _ ⟨he, h⟩ => ⟨he, below_of_gb (gb_trans hg h)⟩
end Go.Proofs.Ytadabpkfkdbafaa
