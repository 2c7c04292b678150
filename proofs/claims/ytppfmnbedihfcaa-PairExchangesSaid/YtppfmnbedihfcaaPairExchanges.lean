/- The document's exchange; the walk of PairExchanges. -/
import Derived.Test.YtppfmnbedihfcaaPr
import Derived.ChangeOld
import Derived.Below
namespace Go.Proofs.Ytppfmnbedihfcaa
open Go.RowKit
attribute [local go_sem] max_two min_two max2_max min2_min

theorem stamp_in (t : Int) (h : InS t) (w : World) : Calls Try.prog 19 #[.int .i64 t] w fun e w' => e = .returned (.bool true) ∧ w = w' := by
  obtain ⟨h0, h1⟩ := h
  have d1 : decide (0 ≤ t) = true := by simpa using h0
  have d2 : decide (t ≤ 4000000000000000) = true := by simpa using h1
  go_enter Try.func19, Try.ntmps19
  go_wp2_with fail
  go_ret
  exact ⟨rfl, rfl⟩
theorem stamp_out (t : Int) (h : ¬ InS t) (w : World) : Calls Try.prog 19 #[.int .i64 t] w fun e w' => e = .returned (.bool false) ∧ w = w' := by
  unfold InS at h
  by_cases h0 : 0 ≤ t
  · have d1 : decide (0 ≤ t) = true := by simpa using h0
    have d2 : decide (t ≤ 4000000000000000) = false := by simp; omega
    clear h
    go_enter Try.func19, Try.ntmps19
    go_wp2_with fail
    go_ret
    exact ⟨rfl, rfl⟩
  · have d1 : decide (0 ≤ t) = false := by simpa using h0
    clear h h0
    go_enter Try.func19, Try.ntmps19
    go_wp2_with fail
    go_ret
    exact ⟨rfl, rfl⟩

theorem half_of (a : Int) : (a.tmod 2 < 0 → a.tdiv 2 - 1 = a / 2) ∧ (¬ a.tmod 2 < 0 → a.tdiv 2 = a / 2) := by
  have h1 := Int.tmod_add_mul_tdiv a 2
  have h3 := Int.emod_nonneg a (b := 2) (by omega)
  have h4 := Int.emod_lt_of_pos a (b := 2) (by omega)
  have h5 : -2 < a.tmod 2 := by
    have := Int.tmod_eq_emod (a := a) (b := 2)
    split at this <;> omega
  have h6 : a.tmod 2 < 2 := by
    have := Int.tmod_eq_emod (a := a) (b := 2)
    split at this <;> omega
  constructor <;> intro h <;> omega

theorem down2_any (a : Int) (h : -9000000000000000 ≤ a ∧ a ≤ 9000000000000000) (w : World) : Calls Try.prog 25 #[.int .i64 a, .int .i64 2] w fun e w' => e = .returned (.int .i64 (a / 2)) ∧ w = w' := by
  have H := hide (half_of a)
  have b0 : -9000000000000000 ≤ a.tdiv 2 ∧ a.tdiv 2 ≤ 9000000000000000 := by
    have h2 := half_of a
    by_cases hc : a.tmod 2 < 0
    · have := h2.1 hc; omega
    · have := h2.2 hc; omega
  obtain ⟨b0, b1⟩ := b0
  obtain ⟨c0, c1⟩ := h
  go_enter Try.func25, Try.ntmps25
  go_wp2_with fail
  · have hc : a.tmod 2 < 0 := by assumption
    go_ret
    exact ⟨ret_int (H.out.1 hc), rfl⟩
  · have hc : ¬ a.tmod 2 < 0 := by first | assumption | exact Int.not_lt.2 (by assumption)
    go_ret
    exact ⟨ret_int (H.out.2 (by omega)), rfl⟩

theorem zOffset_any (a b : Int) (ha : InB a) (hb : InB b) (w : World) : Calls Try.prog 20 #[.agg #[.int .i64 a, .int .i64 b]] w fun e w' => e = .returned (.int .i64 ((a - b) / 2)) ∧ w.grownBy w' none := by
  obtain ⟨a0, a1⟩ := ha
  obtain ⟨b0, b1⟩ := hb
  go_enter Try.func20, Try.ntmps20
  go_wp2_with fail
  refine (down2_any _ (by omega) _).mono ?_
  rintro e w' ⟨rfl, rfl⟩
  go_wp2_with fail
  go_ret
  exact ⟨rfl, gb_alloc (gb_refl _ _) _⟩
theorem zDelay_any (a b : Int) (ha : InB a) (hb : InB b) (w : World) : Calls Try.prog 21 #[.agg #[.int .i64 a, .int .i64 b]] w fun e w' => e = .returned (.int .i64 ((a + b) / 2)) ∧ w.grownBy w' none := by
  obtain ⟨a0, a1⟩ := ha
  obtain ⟨b0, b1⟩ := hb
  go_enter Try.func21, Try.ntmps21
  go_wp2_with fail
  refine (down2_any _ (by omega) _).mono ?_
  rintro e w' ⟨rfl, rfl⟩
  go_wp2_with fail
  go_ret
  exact ⟨rfl, gb_alloc (gb_refl _ _) _⟩

set_option maxHeartbeats 1000000 in
theorem rExchange_in (t1 t2 t3 t4 : Int) (h1 : InS t1) (h2 : InS t2) (h3 : InS t3) (h4 : InS t4) (w : World) :
    Calls Try.prog 9 #[.int .i64 t1, .int .i64 t2, .int .i64 t3, .int .i64 t4] w fun e w' => e = .returned (.tuple #[.int .i64 ((t2 - t1 - (t4 - t3)) / 2), .int .i64 ((t2 - t1 + (t4 - t3)) / 2), .bool true]) ∧ w.grownBy w' none := by
  have ha : InB (t2 - t1) := by unfold InB InS at *; omega
  have hb : InB (t4 - t3) := by unfold InB InS at *; omega
  have HA := hide ha
  have HB := hide hb
  have S1 := hide (stamp_in t1 h1)
  have S2 := hide (stamp_in t2 h2)
  have S3 := hide (stamp_in t3 h3)
  have S4 := hide (stamp_in t4 h4)
  obtain ⟨a0, a1⟩ := h1
  obtain ⟨b0, b1⟩ := h2
  obtain ⟨c0, c1⟩ := h3
  obtain ⟨e0, e1⟩ := h4
  clear ha hb
  go_enter Try.func9, Try.ntmps9
  go_wp2_with fail
  refine (S1.out _).mono ?_
  rintro e w' ⟨rfl, rfl⟩
  go_wp2_with fail
  refine (S2.out _).mono ?_
  rintro e w' ⟨rfl, rfl⟩
  go_wp2_with fail
  refine (S3.out _).mono ?_
  rintro e w' ⟨rfl, rfl⟩
  go_wp2_with fail
  refine (S4.out _).mono ?_
  rintro e w' ⟨rfl, rfl⟩
  go_wp2_with fail
  have hg0 := gb_alloc (gb_refl w none) (.cells #[.int .i64 (t2 - t1), .int .i64 (t4 - t3)] 44)
  have c0' : (w.alloc (.cells #[.int .i64 (t2 - t1), .int .i64 (t4 - t3)] 44)).cell? ⟨w.heap.size, 0, none⟩ = some (.int .i64 (t2 - t1)) := Blk.cell (Blk.new _ _ _) 0
  have c1' : (w.alloc (.cells #[.int .i64 (t2 - t1), .int .i64 (t4 - t3)] 44)).cell? ⟨w.heap.size, 1, none⟩ = some (.int .i64 (t4 - t3)) := Blk.cell (Blk.new _ _ _) 1
  clear a0 a1 b0 b1 e0 e1 c0 c1
  generalize (w.alloc (.cells #[.int .i64 (t2 - t1), .int .i64 (t4 - t3)] 44)) = w1 at *
  go_region_held3 (fun w' => w'.cell? ⟨w.heap.size, 0, none⟩ = some (.int .i64 (t2 - t1)) ∧ w'.cell? ⟨w.heap.size, 1, none⟩ = some (.int .i64 (t4 - t3)))
    (first | go_keep | exact ⟨hg2.cell (by first | assumption | exact hg1.cell (by assumption) (by simp)) (by simp), hg2.cell (by first | assumption | exact hg1.cell (by assumption) (by simp)) (by simp)⟩ | exact ⟨hg1.cell (by assumption) (by simp), hg1.cell (by assumption) (by simp)⟩)
    (first | (go_at_call 20; refine (zOffset_any _ _ HA.out HB.out _).mono ?_; rintro e w2 ⟨rfl, hg1⟩) | (go_at_call 21; refine (zDelay_any _ _ HA.out HB.out _).mono ?_; rintro e w3 ⟨rfl, hg2⟩))
  all_goals
    go_wp2_with fail
    refine bodyPost_ret (v := .tuple #[.int .i64 ((t2 - t1 - (t4 - t3)) / 2), .int .i64 ((t2 - t1 + (t4 - t3)) / 2), .bool true]) (by simp [results, Try.results9, go_sem]) rfl ⟨rfl, ?_⟩
    exact gb_trans hg0 (gb_trans (gb_undrew hg1) hg2)

theorem rExchange_out (t1 t2 t3 t4 : Int) (h : ¬ (InS t1 ∧ InS t2 ∧ InS t3 ∧ InS t4)) (w : World) :
    Calls Try.prog 9 #[.int .i64 t1, .int .i64 t2, .int .i64 t3, .int .i64 t4] w fun e w' => e = .returned (.tuple #[.int .i64 0, .int .i64 0, .bool false]) ∧ w = w' := by
  have cases4 : (¬ InS t1) ∨ (InS t1 ∧ ¬ InS t2) ∨ (InS t1 ∧ InS t2 ∧ ¬ InS t3) ∨ (InS t1 ∧ InS t2 ∧ InS t3 ∧ ¬ InS t4) := by
    unfold InS at *; omega
  clear h
  rcases cases4 with n1 | ⟨y1, n2⟩ | ⟨y1, y2, n3⟩ | ⟨y1, y2, y3, n4⟩
  · have S1 := hide (stamp_out t1 n1)
    clear n1
    go_enter Try.func9, Try.ntmps9
    go_wp2_with fail
    refine (S1.out _).mono ?_
    rintro e w' ⟨rfl, rfl⟩
    go_wp2_with fail
    refine bodyPost_ret (v := .tuple #[.int .i64 0, .int .i64 0, .bool false]) (by simp [results, Try.results9, go_sem]) rfl ⟨rfl, rfl⟩
  · have S1 := hide (stamp_in t1 y1)
    have S2 := hide (stamp_out t2 n2)
    clear y1 n2
    go_enter Try.func9, Try.ntmps9
    go_wp2_with fail
    refine (S1.out _).mono ?_
    rintro e w' ⟨rfl, rfl⟩
    go_wp2_with fail
    refine (S2.out _).mono ?_
    rintro e w' ⟨rfl, rfl⟩
    go_wp2_with fail
    refine bodyPost_ret (v := .tuple #[.int .i64 0, .int .i64 0, .bool false]) (by simp [results, Try.results9, go_sem]) rfl ⟨rfl, rfl⟩
  · have S1 := hide (stamp_in t1 y1)
    have S2 := hide (stamp_in t2 y2)
    have S3 := hide (stamp_out t3 n3)
    clear y1 y2 n3
    go_enter Try.func9, Try.ntmps9
    go_wp2_with fail
    refine (S1.out _).mono ?_
    rintro e w' ⟨rfl, rfl⟩
    go_wp2_with fail
    refine (S2.out _).mono ?_
    rintro e w' ⟨rfl, rfl⟩
    go_wp2_with fail
    refine (S3.out _).mono ?_
    rintro e w' ⟨rfl, rfl⟩
    go_wp2_with fail
    refine bodyPost_ret (v := .tuple #[.int .i64 0, .int .i64 0, .bool false]) (by simp [results, Try.results9, go_sem]) rfl ⟨rfl, rfl⟩
  · have S1 := hide (stamp_in t1 y1)
    have S2 := hide (stamp_in t2 y2)
    have S3 := hide (stamp_in t3 y3)
    have S4 := hide (stamp_out t4 n4)
    clear y1 y2 y3 n4
    go_enter Try.func9, Try.ntmps9
    go_wp2_with fail
    refine (S1.out _).mono ?_
    rintro e w' ⟨rfl, rfl⟩
    go_wp2_with fail
    refine (S2.out _).mono ?_
    rintro e w' ⟨rfl, rfl⟩
    go_wp2_with fail
    refine (S3.out _).mono ?_
    rintro e w' ⟨rfl, rfl⟩
    go_wp2_with fail
    refine (S4.out _).mono ?_
    rintro e w' ⟨rfl, rfl⟩
    go_wp2_with fail
    refine bodyPost_ret (v := .tuple #[.int .i64 0, .int .i64 0, .bool false]) (by simp [results, Try.results9, go_sem]) rfl ⟨rfl, rfl⟩

theorem pairExchanges_walk (a0 : Int) (a1 : Int) (a2 : Int) (a3 : Int) (_ : (Lit.int .i64 a0).wf = true) (_ : (Lit.int .i64 a1).wf = true) (_ : (Lit.int .i64 a2).wf = true) (_ : (Lit.int .i64 a3).wf = true) (w : World) :
    Calls Try.prog 3 #[.int .i64 a0, .int .i64 a1, .int .i64 a2, .int .i64 a3] w fun e w' => e = .returned (.bool true) ∧ Below w.heap.size w w' := by
  by_cases h : InS a0 ∧ InS a1 ∧ InS a2 ∧ InS a3
  · have HE := hide (Exchange_in a0 a1 a2 a3 h.1 h.2.1 h.2.2.1 h.2.2.2)
    have HR := hide (rExchange_in a0 a1 a2 a3 h.1 h.2.1 h.2.2.1 h.2.2.2)
    clear h
    go_enter Try.func3, Try.ntmps3
    go_wp2_with fail
    refine (HE.out _).mono ?_
    rintro e u1 ⟨rfl, rfl⟩
    go_wp2_with fail
    refine (HR.out _).mono ?_
    rintro e u1 ⟨rfl, hg⟩
    go_wp2_with fail
    refine (awake_any _).mono ?_
    rintro e u2 ⟨rfl, rfl⟩
    go_wp2_with fail
    go_ret
    exact ⟨rfl, below_of_gb hg⟩
  · have HE := hide (Exchange_out a0 a1 a2 a3 h)
    have HR := hide (rExchange_out a0 a1 a2 a3 h)
    clear h
    go_enter Try.func3, Try.ntmps3
    go_wp2_with fail
    refine (HE.out _).mono ?_
    rintro e u1 ⟨rfl, rfl⟩
    go_wp2_with fail
    refine (HR.out _).mono ?_
    rintro e u1 ⟨rfl, rfl⟩
    go_wp2_with fail
    refine (awake_any _).mono ?_
    rintro e u2 ⟨rfl, rfl⟩
    go_wp2_with fail
    go_ret
    exact ⟨rfl, Below.refl _ _⟩
end Go.Proofs.Ytppfmnbedihfcaa
