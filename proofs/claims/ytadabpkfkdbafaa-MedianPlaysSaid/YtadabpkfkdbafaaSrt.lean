/- The plain laws of the sorted list: it is a permutation, it is in order, its middle. -/
import Derived.Test.YtadabpkfkdbafaaMed
namespace Go.Proofs.Ytadabpkfkdbafaa

theorem ins_perm (S : List Int) (v : Int) : (ins S v).Perm (v :: S) := by
  unfold ins
  refine List.perm_middle.trans ?_
  rw [List.take_append_drop]
theorem foldl_ins_perm : ∀ (l S : List Int), (l.foldl ins S).Perm (l ++ S)
  | [], S => .refl _
  | x :: l, S => by
    refine (foldl_ins_perm l (ins S x)).trans ?_
    refine ((ins_perm S x).append_left l).trans ?_
    exact List.perm_middle
theorem srt_perm (l : List Int) : (srt l).Perm l := by
  have := foldl_ins_perm l []
  simpa [srt] using this
theorem ins_cons (x : Int) (S : List Int) (v : Int) : ins (x :: S) v = if x ≤ v then x :: ins S v else v :: x :: S := by
  unfold ins insAt
  rw [List.takeWhile_cons]
  by_cases h : x ≤ v <;> simp [h]
theorem ins_sorted (v : Int) : ∀ S : List Int, S.Pairwise (· ≤ ·) → (ins S v).Pairwise (· ≤ ·)
  | [], _ => by simp [ins, insAt]
  | x :: S, h => by
    rw [ins_cons]
    rw [List.pairwise_cons] at h
    split
    · rename_i hx
      rw [List.pairwise_cons]
      refine ⟨fun y hy => ?_, ins_sorted v S h.2⟩
      have := (ins_perm S v).mem_iff.1 hy
      rcases List.mem_cons.1 this with rfl | hy
      · exact hx
      · exact h.1 y hy
    · rename_i hx
      rw [List.pairwise_cons, List.pairwise_cons]
      refine ⟨fun y hy => ?_, h⟩
      rcases List.mem_cons.1 hy with rfl | hy
      · omega
      · have := h.1 y hy; omega
theorem srt_sorted (l : List Int) : (srt l).Pairwise (· ≤ ·) := by
  have : ∀ (l S : List Int), S.Pairwise (· ≤ ·) → (l.foldl ins S).Pairwise (· ≤ ·) := by
    intro l
    induction l with
    | nil => exact fun S h => h
    | cons x l ih => exact fun S h => ih _ (ins_sorted x S h)
  exact this l [] .nil

theorem sorted_le {S : List Int} (h : S.Pairwise (· ≤ ·)) {i j : Nat} (hij : i ≤ j) (hj : j < S.length) : S.getD i 0 ≤ S.getD j 0 := by
  rcases Nat.lt_or_ge i j with hlt | hge
  · have := List.pairwise_iff_getElem.1 h i j (by omega) hj hlt
    rw [List.getD_eq_getElem?_getD, List.getD_eq_getElem?_getD, List.getElem?_eq_getElem (by omega), List.getElem?_eq_getElem hj]
    exact this
  · rw [show i = j by omega]
    exact Int.le_refl _
theorem count_le {S : List Int} (h : S.Pairwise (· ≤ ·)) {i : Nat} (hi : i < S.length) : i + 1 ≤ S.countP (fun x => decide (x ≤ S.getD i 0)) := by
  have h1 : ((S.take (i + 1)).countP (fun x => decide (x ≤ S.getD i 0))) = (S.take (i + 1)).length := by
    rw [List.countP_eq_length]
    intro x hx
    obtain ⟨k, hk, rfl⟩ := List.mem_take_iff_getElem.1 hx
    have := sorted_le h (i := k) (j := i) (by omega) hi
    rw [List.getD_eq_getElem?_getD, List.getElem?_eq_getElem (by omega)] at this
    simpa using this
  have h2 : (S.take (i + 1)).countP (fun x => decide (x ≤ S.getD i 0)) ≤ S.countP (fun x => decide (x ≤ S.getD i 0)) := (List.take_sublist _ _).countP_le
  rw [h1, List.length_take] at h2
  omega
theorem count_ge {S : List Int} (h : S.Pairwise (· ≤ ·)) {i : Nat} (hi : i < S.length) : S.length - i ≤ S.countP (fun x => decide (S.getD i 0 ≤ x)) := by
  have h1 : ((S.drop i).countP (fun x => decide (S.getD i 0 ≤ x))) = (S.drop i).length := by
    rw [List.countP_eq_length]
    intro x hx
    obtain ⟨k, hk, rfl⟩ := List.mem_drop_iff_getElem.1 hx
    have := sorted_le h (i := i) (j := i + k) (by omega) (by omega)
    rw [List.getD_eq_getElem?_getD, List.getD_eq_getElem?_getD, List.getElem?_eq_getElem hi, List.getElem?_eq_getElem (by omega)] at this
    rw [List.getD_eq_getElem?_getD, List.getElem?_eq_getElem hi]
    simpa using this
  have h2 : (S.drop i).countP (fun x => decide (S.getD i 0 ≤ x)) ≤ S.countP (fun x => decide (S.getD i 0 ≤ x)) := (List.drop_sublist _ _).countP_le
  rw [h1, List.length_drop] at h2
  omega

/-- The middle: a value; how many are no greater, how many no less. -/
theorem mid_mem (l : List Int) (h : 0 < l.length) : mid l ∈ l := by
  unfold mid
  have hi : (l.length - 1) / 2 < (srt l).length := by rw [srt_length]; omega
  rw [List.getD_eq_getElem?_getD, List.getElem?_eq_getElem hi]
  exact (srt_perm l).mem_iff.1 (List.getElem_mem hi)
theorem mid_le (l : List Int) (h : 0 < l.length) : (l.length - 1) / 2 + 1 ≤ l.countP (fun x => decide (x ≤ mid l)) := by
  have hi : (l.length - 1) / 2 < (srt l).length := by rw [srt_length]; omega
  have := count_le (srt_sorted l) hi
  rw [(srt_perm l).countP_eq] at this
  exact this
theorem mid_ge (l : List Int) (h : 0 < l.length) : l.length - (l.length - 1) / 2 ≤ l.countP (fun x => decide (mid l ≤ x)) := by
  have hi : (l.length - 1) / 2 < (srt l).length := by rw [srt_length]; omega
  have := count_ge (srt_sorted l) hi
  rw [(srt_perm l).countP_eq, srt_length] at this
  exact this
/-- In whatever order. -/
theorem mid_perm {l k : List Int} (h : l.Perm k) : mid l = mid k := by
  unfold mid
  have e : srt l = srt k := (((srt_perm l).trans h).trans (srt_perm k).symm).eq_of_pairwise (fun a b _ _ h1 h2 => Int.le_antisymm h1 h2) (srt_sorted l) (srt_sorted k)
  rw [e, h.length_eq]
/-- Among four and more of which all but one lie from b on and below b + 100 the middle lies there too. -/
theorem mid_odd (l : List Int) (b : Int) (h : 4 ≤ l.length) (ho : l.countP (fun x => !(decide (b ≤ x) && decide (x < b + 100))) ≤ 1) : b ≤ mid l ∧ mid l < b + 100 := by
  have h1 := mid_le l (by omega)
  have h2 := mid_ge l (by omega)
  refine ⟨Int.not_lt.1 fun hlt => ?_, Int.not_le.1 fun hge => ?_⟩
  · have : l.countP (fun x => decide (x ≤ mid l)) ≤ l.countP (fun x => !(decide (b ≤ x) && decide (x < b + 100))) := List.countP_mono_left (fun x _ hx => by
      have : x ≤ mid l := by simpa using hx
      simp; omega)
    omega
  · have : l.countP (fun x => decide (mid l ≤ x)) ≤ l.countP (fun x => !(decide (b ≤ x) && decide (x < b + 100))) := List.countP_mono_left (fun x _ hx => by
      have : mid l ≤ x := by simpa using hx
      simp; omega)
    omega
end Go.Proofs.Ytadabpkfkdbafaa
