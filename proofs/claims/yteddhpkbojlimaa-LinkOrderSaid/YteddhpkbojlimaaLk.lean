/- The segment, as a plain list of frames; contracts of package link. -/
import Derived.Test.YteddhpkbojlimaaApp
import Derived.Deep.RegionLaw
namespace Go.Proofs.Yteddhpkbojlimaa
open Go.RowKit
attribute [local go_sem] max_two min_two max2_max min2_min

/-- Frames, cell by cell. -/
def flat (q : List (Int × ByteArray)) : List Value := q.flatMap fun x => [.int .i64 x.1, .string x.2]
theorem flat_cons (x : Int × ByteArray) (q : List (Int × ByteArray)) : flat (x :: q) = .int .i64 x.1 :: .string x.2 :: flat q := rfl
theorem flat_append (p q : List (Int × ByteArray)) : flat (p ++ q) = flat p ++ flat q := by simp [flat]
theorem flat_length : ∀ q : List (Int × ByteArray), (flat q).length = q.length * 2
  | [] => rfl
  | x :: q => by rw [flat_cons, List.length_cons, List.length_cons, flat_length q, List.length_cons]; omega
theorem flat_from : ∀ (q : List (Int × ByteArray)) (i : Nat) (x : Int × ByteArray), q[i]? = some x → (flat q)[i * 2]? = some (.int .i64 x.1) ∧ (flat q)[i * 2 + 1]? = some (.string x.2)
  | [], i, x, h => by simp at h
  | y :: q, 0, x, h => by
    simp at h
    subst h
    exact ⟨rfl, rfl⟩
  | y :: q, i + 1, x, h => by
    have := flat_from q i x (by simpa using h)
    rw [flat_cons, show (i + 1) * 2 = i * 2 + 1 + 1 by omega]
    exact this
theorem flat_one (q : List (Int × ByteArray)) : ∀ u ∈ flat q, u.oneCell' = true := by
  intro u hu
  simp only [flat, List.mem_flatMap] at hu
  obtain ⟨x, _, hx⟩ := hu
  simp at hx
  rcases hx with rfl | rfl <;> rfl
theorem flat_take (q : List (Int × ByteArray)) (k : Nat) : (flat q).take (k * 2) = flat (q.take k) := by
  induction q generalizing k with
  | nil => simp [flat]
  | cons x q ih =>
    cases k with
    | zero => rfl
    | succ k => rw [List.take_succ_cons, flat_cons, flat_cons, show (k + 1) * 2 = k * 2 + 1 + 1 by omega, List.take_succ_cons, List.take_succ_cons, ih]
theorem flat_drop (q : List (Int × ByteArray)) (k : Nat) : (flat q).drop (k * 2) = flat (q.drop k) := by
  induction q generalizing k with
  | nil => simp [flat]
  | cons x q ih =>
    cases k with
    | zero => rfl
    | succ k => rw [List.drop_succ_cons, flat_cons, show (k + 1) * 2 = k * 2 + 1 + 1 by omega, List.drop_succ_cons, List.drop_succ_cons, ih]

/-- A segment at block b: its frames lie in a row of its own, in a block from base on. -/
def LkAt (w : World) (b base : Nat) (q : List (Int × ByteArray)) (lost : Int) : Prop :=
  ∃ A c, Blk w b 39 #[.slice A q.length c, .int .i64 lost] ∧ w.ownsRow base 41 2 (.slice A q.length c) q.length (flat q)
theorem own_le {w : World} {base : Nat} {e : TypeId} {size n c : Nat} {A : Option Addr} {xs : List Value} (h : w.ownsRow base e size (.slice A n c) n xs) : n ≤ c ∧ (c = 0 ∧ A = none ∨ ∃ g, A = some ⟨g, 0, none⟩) := by
  rcases h.2 with ⟨hv, rfl⟩ | ⟨g, cap, cur, hv, _, _, hc, _⟩
  · rw [Value.slice.injEq] at hv
    obtain ⟨rfl, -, rfl⟩ := hv
    exact ⟨Nat.le_refl _, .inl ⟨rfl, rfl⟩⟩
  · rw [Value.slice.injEq] at hv
    obtain ⟨rfl, -, rfl⟩ := hv
    exact ⟨hc, .inr ⟨g, rfl⟩⟩
theorem LkAt.keep {w w' : World} {b base : Nat} {q : List (Int × ByteArray)} {lost : Int} (h : LkAt w b base q lost) (hg : w.grownBy w' none) : LkAt w' b base q lost := by
  obtain ⟨A, c, hb, ho⟩ := h
  exact ⟨A, c, Blk.other hb hg (by simp), own_kept ho hg⟩
theorem LkAt.drewN {w : World} {b base : Nat} {q : List (Int × ByteArray)} {lost : Int} (h : LkAt w b base q lost) (n : Nat) : LkAt (w.drewN n) b base q lost := h

theorem Try.info41 : (Try.prog.info? 41).map (fun i => (i.zero, i.size, i.bytes)) = some (some (.agg #[.int .i64 0, .string ByteArray.empty]), 2, 24) := by kernel_rfl

theorem new_any (base : Nat) (w : World) :
    Calls Try.prog 6 #[] w fun e w' => e = .returned (.pointer (some ⟨w.heap.size, 0, none⟩)) ∧ LkAt w' w.heap.size base [] 0 ∧ w.grownBy w' none := by
  go_enter Try.func6, Try.ntmps6
  go_wp2
  go_ret
  exact ⟨rfl, ⟨none, 0, Blk.new _ _ _, rfl, .inl ⟨rfl, rfl⟩⟩, gb_alloc (gb_refl _ _) _⟩

theorem len_any (b base : Nat) (q : List (Int × ByteArray)) (lost : Int) (w : World) (hb : LkAt w b base q lost) :
    Calls Try.prog 11 #[.pointer (some ⟨b, 0, none⟩)] w fun e w' => e = .returned (.int .i64 q.length) ∧ w = w' := by
  obtain ⟨A, c, hB, ho⟩ := hb
  have hc : w.cell? ⟨b, 0, none⟩ = some (.slice A q.length c) := Blk.cell hB 0
  go_enter Try.func11, Try.ntmps11
  go_wp2
  go_ret
  exact ⟨rfl, rfl⟩
theorem lost_any (b base : Nat) (q : List (Int × ByteArray)) (lost : Int) (w : World) (hb : LkAt w b base q lost) :
    Calls Try.prog 12 #[.pointer (some ⟨b, 0, none⟩)] w fun e w' => e = .returned (.int .i64 lost) ∧ w = w' := by
  obtain ⟨A, c, hB, ho⟩ := hb
  have hc : w.cell? ⟨b, 1, none⟩ = some (.int .i64 lost) := Blk.cell hB 1
  go_enter Try.func12, Try.ntmps12
  go_wp2
  go_ret
  exact ⟨rfl, rfl⟩
theorem clear_any (b base : Nat) (q : List (Int × ByteArray)) (lost : Int) (w : World) (hb : LkAt w b base q lost) :
    Calls Try.prog 14 #[.pointer (some ⟨b, 0, none⟩)] w fun e w' => e = .returned (.tuple #[]) ∧ LkAt w' b base [] lost ∧ w.grownBy w' (some b) := by
  obtain ⟨A, c, hB, ho⟩ := hb
  have hc : w.cell? ⟨b, 0, none⟩ = some (.slice A q.length c) := Blk.cell hB 0
  have hf := Blk.free hB 0
  go_enter Try.func14, Try.ntmps14
  go_wp2
  go_end0
  exact ⟨rfl, ⟨none, 0, Blk.set hB 0 _, rfl, .inl ⟨rfl, rfl⟩⟩, gb_set (gb_refl _ _) _ _⟩

theorem none_in (b base : Nat) (q : List (Int × ByteArray)) (lost i : Int) (w : World) (hb : LkAt w b base q lost) (h0 : 0 ≤ i) (h1 : i < q.length) :
    Calls Try.prog 17 #[.pointer (some ⟨b, 0, none⟩), .int .i64 i] w fun e w' => e = .returned (.bool false) ∧ w = w' := by
  obtain ⟨A, c, hB, ho⟩ := hb
  have hc : w.cell? ⟨b, 0, none⟩ = some (.slice A q.length c) := Blk.cell hB 0
  have d1 : decide (i < 0) = false := by simpa using h0
  have d2 : decide ((q.length : Int) ≤ i) = false := by simpa using h1
  go_enter Try.func17, Try.ntmps17
  go_wp2
  go_ret
  exact ⟨rfl, rfl⟩
theorem none_out (b base : Nat) (q : List (Int × ByteArray)) (lost i : Int) (w : World) (hb : LkAt w b base q lost) (h : i < 0 ∨ (q.length : Int) ≤ i) :
    Calls Try.prog 17 #[.pointer (some ⟨b, 0, none⟩), .int .i64 i] w fun e w' => e = .returned (.bool true) ∧ w = w' := by
  obtain ⟨A, c, hB, ho⟩ := hb
  have hc : w.cell? ⟨b, 0, none⟩ = some (.slice A q.length c) := Blk.cell hB 0
  by_cases h0 : i < 0
  · have d1 : decide (i < 0) = true := by simpa using h0
    go_enter Try.func17, Try.ntmps17
    go_wp2
    go_ret
    exact ⟨rfl, rfl⟩
  · have d1 : decide (i < 0) = false := by simpa using h0
    have d3 : (q.length : Int) ≤ i := by omega
    have d2 : decide ((q.length : Int) ≤ i) = true := by simpa using d3
    go_enter Try.func17, Try.ntmps17
    go_wp2
    go_ret
    exact ⟨rfl, rfl⟩

theorem look_out (b base : Nat) (q : List (Int × ByteArray)) (lost i : Int) (w : World) (hb : LkAt w b base q lost) (h : i < 0 ∨ (q.length : Int) ≤ i) :
    Calls Try.prog 13 #[.pointer (some ⟨b, 0, none⟩), .int .i64 i] w fun e w' => e = .returned (.tuple #[.int .i64 0, .string { data := #[] }, .bool false]) ∧ w = w' := by
  have HC := hide (none_out b base q lost i w hb h)
  clear h
  go_enter Try.func13, Try.ntmps13
  go_wp2_with fail
  refine HC.out.mono ?_
  rintro e w' ⟨rfl, rfl⟩
  go_wp2
  refine bodyPost_ret (v := .tuple #[.int .i64 0, .string { data := #[] }, .bool false]) (by simp [results, Try.results13, go_sem]) rfl ⟨rfl, rfl⟩

theorem look_in (b base : Nat) (q : List (Int × ByteArray)) (lost : Int) (i : Nat) (x : Int × ByteArray) (w : World) (hb : LkAt w b base q lost) (h : q[i]? = some x) (hq : q.length ≤ 1000) :
    Calls Try.prog 13 #[.pointer (some ⟨b, 0, none⟩), .int .i64 i] w fun e w' => e = .returned (.tuple #[.int .i64 x.1, .string x.2, .bool true]) ∧ ∃ n, w' = w.drewN n := by
  have hi : i < q.length := by
    rcases Nat.lt_or_ge i q.length with h1 | h1
    · exact h1
    · rw [List.getElem?_eq_none h1] at h; cases h
  have HC := hide (none_in b base q lost i w hb (by omega) (by omega))
  obtain ⟨A, c, hB, ho⟩ := hb
  have hc : w.cell? ⟨b, 0, none⟩ = some (.slice A q.length c) := Blk.cell hB 0
  obtain ⟨g, rfl⟩ := own_addr ho (by omega)
  have hx := flat_from q i x h
  have h0 : w.cell? ⟨g, i * 2, none⟩ = some (.int .i64 x.1) := by rw [ho.cellAt _ (by omega)]; exact hx.1
  have h1 : w.cell? ⟨g, i * 2 + 1, none⟩ = some (.string x.2) := by rw [ho.cellAt _ (by omega)]; exact hx.2
  obtain ⟨n, hn⟩ : ∃ n, q.length = n := ⟨_, rfl⟩
  rw [hn] at hc hi hq
  have hi1 : (i : Int) < (n : Int) := by omega
  have hi2 : (0 : Int) ≤ (i : Int) := by omega
  clear hx h ho hB hn
  go_enter Try.func13, Try.ntmps13
  go_wp2_with fail
  refine HC.out.mono ?_
  rintro e w' ⟨rfl, rfl⟩
  go_wp2_with fail
  go_quiet (fail)
  go_wp2_with fail
  refine bodyPost_ret (v := .tuple #[.int .i64 x.1, .string x.2, .bool true]) (by simp [results, Try.results13, go_sem]) rfl ⟨rfl, _, rfl⟩
end Go.Proofs.Yteddhpkbojlimaa
