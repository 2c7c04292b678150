/- SameInts; the last ones of a list. -/
import Derived.Test.YtadabpkfkdbafaaMed3
namespace Go.Proofs.Ytadabpkfkdbafaa
open Go.RowKit

/-- The last k of a list. -/
def lastk (k : Nat) (l : List Int) : List Int := l.drop (l.length - k)
theorem lastk_len (k : Nat) (l : List Int) : (lastk k l).length ≤ k := by
  simp [lastk]; omega
theorem put_lastk (k : Nat) (l : List Int) (v : Int) (hk : 1 ≤ k) : put (lastk k l) k v = lastk k (l ++ [v]) := by
  unfold put
  rcases Nat.lt_or_ge l.length k with h | h
  · have e : lastk k l = l := by unfold lastk; rw [show l.length - k = 0 by omega]; rfl
    rw [e, if_neg (by omega)]
    unfold lastk
    rw [show (l ++ [v]).length - k = 0 by simp; omega]
    rfl
  · have e : (lastk k l).length = k := by simp [lastk]; omega
    rw [if_pos (by omega)]
    unfold lastk
    rw [← List.drop_one, List.drop_drop, List.drop_append_of_le_length (by simp; omega)]
    congr 2
    simp; omega
theorem lastk_append (k : Nat) (l r : List Int) (h : k ≤ r.length) : lastk k (l ++ r) = lastk k r := by
  unfold lastk
  rw [List.drop_append, List.drop_eq_nil_of_le (by simp; omega), List.nil_append]
  congr 1
  simp; omega
theorem take_getD (z : List Int) (j : Nat) (h : j < z.length) : z.take (j + 1) = z.take j ++ [z.getD j 0] := by
  rw [List.take_succ_eq_append_getElem h, List.getD_eq_getElem?_getD, List.getElem?_eq_getElem h]
  rfl

theorem same_ints (ga oa gb ob n ca cb : Nat) (l : List Int) (w : World) (hn : n ≤ 1000)
    (hA : ∀ i, i < n → w.cell? ⟨ga, oa + i, none⟩ = some (.int .i64 (l.getD i 0))) (hB : ∀ i, i < n → w.cell? ⟨gb, ob + i, none⟩ = some (.int .i64 (l.getD i 0))) :
    Calls Try.prog 14 #[.slice (some ⟨ga, oa, none⟩) n ca, .slice (some ⟨gb, ob, none⟩) n cb] w fun e w' => e = .returned (.bool true) ∧ w.grownBy w' none := by
  have HA := hide hA
  have HB := hide hB
  clear hA hB
  go_enter Try.func14, Try.ntmps14
  go_wp2_with fail
  go_loopw [5] (fun i wr => ∃ j : Nat, i = .int .i64 j ∧ j ≤ n ∧ w.grownBy wr none) (fun i _ => n - (intOf i).toNat)
  case atStart => exact ⟨0, rfl, by omega, gb_refl _ _⟩
  case round =>
    obtain ⟨j, rfl, hj, hg⟩ := hrel
    by_cases hjn : j < n
    · have hjn' : (j : Int) < n := by omega
      have h1 := hg.cell (HA.out j hjn) (by simp)
      have h2 := hg.cell (HB.out j hjn) (by simp)
      obtain ⟨y, hy⟩ : ∃ y, l.getD j 0 = y := ⟨_, rfl⟩
      rw [hy] at h1 h2
      go_wp2_with fail
      go_quiet (fail)
      go_wp2_with fail
      exact ⟨⟨j + 1, by simp, by omega, gb_drewN hg _⟩, by simp [intOf]; omega⟩
    · go_wp2_with fail
      go_ret
      exact ⟨rfl, hg⟩
end Go.Proofs.Ytadabpkfkdbafaa
