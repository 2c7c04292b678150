/- Package pair at pairs of whole numbers: contracts. -/
import Derived.Test.YtppfmnbedihfcaaObj
import Derived.Test.YtppfmnbedihfcaaFl
import Derived.Laws.Externs
namespace Go.Proofs.Ytppfmnbedihfcaa
open Go.RowKit
attribute [local go_sem] max_two min_two max2_max min2_min

theorem call_trunc (args : Array Value) (w : World) : (callFunc 29 args).run Try.prog w = ((Extern.MathFloor.toIntegral "math.archTrunc" .zero args).run Try.prog w).andThen fun v w' => .ok (.value v) w' :=
  run_callFunc_extern Try.func29 (by kernel_rfl) (by kernel_rfl) (by kernel_rfl) (by kernel_rfl) args w
theorem call_bits (args : Array Value) (w : World) : (callFunc 31 args).run Try.prog w = ((Extern.MathFloatBits.float64bits args).run Try.prog w).andThen fun v w' => .ok (.value v) w' :=
  run_callFunc_extern Try.func31 (by kernel_rfl) (by kernel_rfl) (by kernel_rfl) (by kernel_rfl) args w

theorem trunc_fl (a : Int) (h : a.natAbs < 2 ^ 53) (w : World) : (callFunc 29 #[.float .f64 (fl a)]).run Try.prog w = .ok (.value (.float .f64 (fl a))) w := by
  rw [call_trunc]
  have hr := (toInt_rd (fl_rd a h)).2
  have hw : FloatKind.f64.encode ((Ieee.double.read (fl a)).integral .zero) = fl a := by
    rw [hr]; rfl
  obtain ⟨k, hk⟩ := fl_rd a h
  have hd : FloatKind.f64.decode (fl a) = _ := hk
  rw [hk] at hw
  generalize fl a = x at *
  have e : Extern.MathFloor.toIntegral "math.archTrunc" .zero #[.float .f64 x] = (match FloatKind.f64.decode x with
    | .nan s t =>
      if FloatKind.f64.format.quiet t = t then pure (.float .f64 x) else do
      let kept ← choose (.extern "math.Floor,Ceil,Trunc,RoundToEven.signallingNaN kept" 2)
      pure (.float .f64 (if kept == 1 then x else FloatKind.f64.encode (.nan s (FloatKind.f64.format.quiet t))))
    | d => pure (.float .f64 (FloatKind.f64.encode (d.integral .zero)))) := rfl
  rw [e, hd]
  dsimp only
  rw [hw]
  rfl

theorem idx0 (a b c d : Value) (w : World) : (Instr.index 41 (.agg #[a, b, c, d]) (.int .i64 0)).run Try.prog w = .ok a w := by kernel_rfl
theorem idx1 (a b c d : Value) (w : World) : (Instr.index 41 (.agg #[a, b, c, d]) (.int .i64 1)).run Try.prog w = .ok b w := by kernel_rfl
theorem idx2 (a b c d : Value) (w : World) : (Instr.index 41 (.agg #[a, b, c, d]) (.int .i64 2)).run Try.prog w = .ok c w := by kernel_rfl
theorem idx3 (a b c d : Value) (w : World) : (Instr.index 41 (.agg #[a, b, c, d]) (.int .i64 3)).run Try.prog w = .ok d w := by kernel_rfl
attribute [local go_sem ↓] idx0 idx1 idx2 idx3

theorem Trunc_any (a : Int) (h : a.natAbs < 2 ^ 53) (w : World) : Calls Try.prog 27 #[.float .f64 (fl a)] w fun e w' => e = .returned (.float .f64 (fl a)) ∧ w = w' := by
  have H := trunc_fl a h
  generalize fl a = x at *
  go_enter Try.func27, Try.ntmps27
  go_wp2_with fail
  go_ret
  exact ⟨rfl, rfl⟩

theorem sign_zero (w : World) : Calls Try.prog 28 #[.float .f64 (fl 0)] w fun e w' => e = .returned (.bool false) ∧ w = w' := by
  have H : (callFunc 31 #[.float .f64 0]).run Try.prog w = .ok (.value (.int .u64 0)) w := by rw [call_bits]; rfl
  rw [show fl 0 = 0 from by decide]
  go_enter Try.func28, Try.ntmps28
  go_wp2_with fail
  go_ret
  exact ⟨rfl, rfl⟩

theorem Of_in (a b : Int) (w : World) (ha : -4000000000000000 ≤ a ∧ a ≤ 4000000000000000) (hb : -4000000000000000 ≤ b ∧ b ≤ 4000000000000000) :
    Calls Try.prog 12 #[.int .i64 a, .int .i64 b] w fun e w' => e = .returned (.tuple #[.complex .f64 (fl a) (fl b), .bool true]) ∧ w = w' := by
  obtain ⟨a0, a1⟩ := ha
  obtain ⟨b0, b1⟩ := hb
  have d1 : decide (a < -4000000000000000) = false := by simpa using a0
  have d2 : decide (4000000000000000 < a) = false := by simpa using a1
  have d3 : decide (b < -4000000000000000) = false := by simpa using b0
  have d4 : decide (4000000000000000 < b) = false := by simpa using b1
  go_enter Try.func12, Try.ntmps12
  go_wp2_with fail
  go_ret2
  exact ⟨rfl, rfl⟩

theorem lo_eq : fl (-4000000000000000) = 14063734437023318016 := by decide +kernel
theorem hi_eq : fl 4000000000000000 = 4840362400168542208 := by decide +kernel
theorem one_eq : fl 1 = 4607182418800017408 := by decide +kernel
theorem zero_eq : fl 0 = 0 := by decide +kernel

def InB (a : Int) : Prop := -4000000000000000 ≤ a ∧ a ≤ 4000000000000000
theorem InB.small {a : Int} (h : InB a) : a.natAbs < 2 ^ 53 := by unfold InB at h; omega

theorem ord_lo {a : Int} (h : InB a) : ∃ o, FloatKind.f64.format.order (fl a) 14063734437023318016 = some o ∧ (o = .gt ∨ o = .eq) := by
  rw [← lo_eq]
  refine ⟨_, order_rd (fl_rd a h.small) (fl_rd _ (by decide)), ?_⟩
  have := h.1
  show compareOfLessAndEq _ _ = _ ∨ compareOfLessAndEq _ _ = _
  unfold compareOfLessAndEq
  rw [if_neg (by omega)]
  split
  · exact .inr rfl
  · exact .inl rfl
theorem ord_hi {a : Int} (h : InB a) : ∃ o, FloatKind.f64.format.order (fl a) 4840362400168542208 = some o ∧ (o = .lt ∨ o = .eq) := by
  rw [← hi_eq]
  refine ⟨_, order_rd (fl_rd a h.small) (fl_rd _ (by decide)), ?_⟩
  have := h.2
  show compareOfLessAndEq _ _ = _ ∨ compareOfLessAndEq _ _ = _
  unfold compareOfLessAndEq
  split
  · exact .inl rfl
  · rw [if_pos (by omega)]
    exact .inr rfl
theorem ord_eq {a b : Int} (ha : InB a) (hb : InB b) : (FloatKind.f64.format.order (fl a) (fl b) == some .eq) = decide (a = b) := by
  rw [show FloatKind.f64.format.order (fl a) (fl b) = _ from order_rd (fl_rd a ha.small) (fl_rd b hb.small)]
  show (some (compareOfLessAndEq a b) == _) = _
  unfold compareOfLessAndEq
  by_cases h : a < b
  · rw [if_pos h, decide_eq_false (by omega)]; rfl
  · rw [if_neg h]
    by_cases h2 : a = b
    · rw [if_pos h2, decide_eq_true h2]; rfl
    · rw [if_neg h2, decide_eq_false h2]; rfl
theorem ord_self {a : Int} (h : InB a) : FloatKind.f64.format.order (fl a) (fl a) = some .eq := by
  rw [show FloatKind.f64.format.order (fl a) (fl a) = _ from order_rd (fl_rd a h.small) (fl_rd a h.small)]
  show some (compareOfLessAndEq a a) = _
  simp [compareOfLessAndEq]
theorem ord_zero {a : Int} (h : InB a) (h0 : a ≠ 0) : ∃ o, FloatKind.f64.format.order (fl a) 0 = some o ∧ (o = .lt ∨ o = .gt) := by
  refine ⟨_, by rw [← zero_eq]; exact order_rd (fl_rd a h.small) (fl_rd _ (by decide)), ?_⟩
  show compareOfLessAndEq _ _ = _ ∨ compareOfLessAndEq _ _ = _
  unfold compareOfLessAndEq
  split
  · exact .inl rfl
  · exact .inr rfl

theorem whole_fl (a : Int) (h : InB a) (w : World) : Calls Try.prog 26 #[.float .f64 (fl a)] w fun e w' => e = .returned (.bool true) ∧ w = w' := by
  have HT := Trunc_any a h.small
  obtain ⟨o1, e1, h1⟩ := ord_lo h
  obtain ⟨o2, e2, h2⟩ := ord_hi h
  have e3 := ord_self h
  by_cases h0 : a = 0
  · subst h0
    rcases h1 with rfl | rfl <;> rcases h2 with rfl | rfl
    all_goals
      have e4 : FloatKind.f64.format.order (fl 0) 0 = some .eq := by rw [zero_eq] at *; exact e3
      have HS := sign_zero
      generalize fl 0 = x at *
      go_enter Try.func26, Try.ntmps26
      go_wp2_with fail
      refine (HT _).mono ?_
      rintro e w' ⟨rfl, rfl⟩
      go_wp2_with fail
      refine (HS _).mono ?_
      rintro e w' ⟨rfl, rfl⟩
      go_wp2_with fail
      go_ret
      exact ⟨rfl, rfl⟩
  · obtain ⟨o4, e4, h4⟩ := ord_zero h h0
    clear h0 h
    generalize fl a = x at *
    rcases h1 with rfl | rfl <;> rcases h2 with rfl | rfl <;> rcases h4 with rfl | rfl
    all_goals
      go_enter Try.func26, Try.ntmps26
      go_wp2_with fail
      refine (HT _).mono ?_
      rintro e w' ⟨rfl, rfl⟩
      go_wp2_with fail
      go_ret
      exact ⟨rfl, rfl⟩

theorem is_fl (a b : Int) (ha : InB a) (hb : InB b) (w : World) : Calls Try.prog 22 #[.complex .f64 (fl a) (fl b)] w fun e w' => e = .returned (.bool true) ∧ w = w' := by
  have HA := whole_fl a ha
  have HB := whole_fl b hb
  clear ha hb
  generalize fl a = x at *
  generalize fl b = y at *
  go_enter Try.func22, Try.ntmps22
  go_wp2_with fail
  refine (HA _).mono ?_
  rintro e w' ⟨rfl, rfl⟩
  go_wp2_with fail
  refine (HB _).mono ?_
  rintro e w' ⟨rfl, rfl⟩
  go_wp2_with fail
  go_ret
  exact ⟨rfl, rfl⟩

theorem mul_11 (a b : Int) (ha : InB a) (hb : InB b) (t : TypeId) (w : World) :
    (binOp .mul t (.complex .f64 (fl a) (fl b)) (.complex .f64 4607182418800017408 4607182418800017408)).run Try.prog w = .ok (.complex .f64 (fl (a - b)) (fl (a + b))) w := by
  rw [← one_eq]
  have r1 := fl_rd 1 (by decide)
  have m1 : floatBits .mul .f64 (fl a) (fl 1) = some (fl a) := by
    have := mul_fl (fl_rd a ha.small) r1 (by rw [Int.mul_one]; exact ha.small) (by omega) (by omega)
    rwa [Int.mul_one] at this
  have m2 : floatBits .mul .f64 (fl b) (fl 1) = some (fl b) := by
    have := mul_fl (fl_rd b hb.small) r1 (by rw [Int.mul_one]; exact hb.small) (by omega) (by omega)
    rwa [Int.mul_one] at this
  have m3 := sub_fl (fl_rd a ha.small) (fl_rd b hb.small) (by unfold InB at ha hb; omega)
  have m4 := add_fl (fl_rd a ha.small) (fl_rd b hb.small) (by unfold InB at ha hb; omega)
  exact run_complex_mul w t (fl a) (fl b) (fl 1) (fl 1) _ _ (by unfold cMulBits; simp only [m1, m2, m3, m4, Option.bind_some])

theorem Turned_fl (a b : Int) (ha : InB a) (hb : InB b) (w : World) : Calls Try.prog 13 #[.complex .f64 (fl a) (fl b)] w fun e w' => e = .returned (.tuple #[.complex .f64 (fl (a - b)) (fl (a + b)), .bool true]) ∧ w = w' := by
  have HI := is_fl a b ha hb
  have HM := mul_11 a b ha hb 27
  clear ha hb
  generalize fl a = x at *
  generalize fl b = y at *
  generalize fl (a - b) = z at *
  generalize fl (a + b) = v at *
  go_enter Try.func13, Try.ntmps13
  go_wp2_with fail
  refine (HI _).mono ?_
  rintro e w' ⟨rfl, rfl⟩
  go_wp2_with fail
  go_ret2
  exact ⟨rfl, rfl⟩

theorem toInt_fl (c : Int) (h : c.natAbs < 2 ^ 53) (w : World) : (convert 33 3 (.float .f64 (fl c))).run Try.prog w = .ok (.int .i64 c) w := by
  refine run_convert_float_int w 33 3 .f64 .i64 (fl c) c (by rw [Try.underlying33]; rfl) Try.underlying3 ?_
  unfold floatToIntVal
  rw [show FloatKind.f64.decode (fl c) = Ieee.double.read (fl c) from rfl, (toInt_rd (fl_rd c h)).1]
  dsimp only
  rw [if_pos]
  show -9223372036854775808 ≤ c ∧ c ≤ 9223372036854775807
  omega

theorem Offset_fl (a b : Int) (ha : InB a) (hb : InB b) (w : World) : Calls Try.prog 14 #[.complex .f64 (fl a) (fl b)] w fun e w' => e = .returned (.tuple #[.int .i64 ((a - b) / 2), .bool true]) ∧ w = w' := by
  have HT := Turned_fl a b ha hb
  have HC := toInt_fl (a - b) (by unfold InB at ha hb; omega)
  generalize fl a = x at *
  generalize fl b = y at *
  generalize fl (a - b) = z at *
  generalize fl (a + b) = v at *
  go_enter Try.func14, Try.ntmps14
  go_wp2_with fail
  refine (HT _).mono ?_
  rintro e w' ⟨rfl, rfl⟩
  go_wp2_with fail
  go_ret2
  exact ⟨rfl, rfl⟩
theorem Delay_fl (a b : Int) (ha : InB a) (hb : InB b) (w : World) : Calls Try.prog 15 #[.complex .f64 (fl a) (fl b)] w fun e w' => e = .returned (.tuple #[.int .i64 ((a + b) / 2), .bool true]) ∧ w = w' := by
  have HT := Turned_fl a b ha hb
  have HC := toInt_fl (a + b) (by unfold InB at ha hb; omega)
  generalize fl a = x at *
  generalize fl b = y at *
  generalize fl (a - b) = z at *
  generalize fl (a + b) = v at *
  go_enter Try.func15, Try.ntmps15
  go_wp2_with fail
  refine (HT _).mono ?_
  rintro e w' ⟨rfl, rfl⟩
  go_wp2_with fail
  go_ret2
  exact ⟨rfl, rfl⟩

def InS (t : Int) : Prop := 0 ≤ t ∧ t ≤ 4000000000000000

/-- What four stamps tell. -/
theorem Exchange_in (t1 t2 t3 t4 : Int) (h1 : InS t1) (h2 : InS t2) (h3 : InS t3) (h4 : InS t4) (w : World) :
    Calls Try.prog 8 #[.int .i64 t1, .int .i64 t2, .int .i64 t3, .int .i64 t4] w fun e w' => e = .returned (.tuple #[.int .i64 ((t2 - t1 - (t4 - t3)) / 2), .int .i64 ((t2 - t1 + (t4 - t3)) / 2), .bool true]) ∧ w = w' := by
  obtain ⟨a0, a1⟩ := h1
  obtain ⟨b0, b1⟩ := h2
  obtain ⟨c0, c1⟩ := h3
  obtain ⟨e0, e1⟩ := h4
  have ha : InB (t2 - t1) := ⟨by omega, by omega⟩
  have hb : InB (t4 - t3) := ⟨by omega, by omega⟩
  have HOf := Of_in (t2 - t1) (t4 - t3)
  have HO := Offset_fl _ _ ha hb
  have HD := Delay_fl _ _ ha hb
  have HA := hide ha
  have HB := hide hb
  clear ha hb
  have d1 : decide (t1 < 0) = false := by simpa using a0
  have d2 : decide (t2 < 0) = false := by simpa using b0
  have d3 : decide (t3 < 0) = false := by simpa using c0
  have d4 : decide (t4 < 0) = false := by simpa using e0
  have f1 : decide (4000000000000000 < t1) = false := by simpa using a1
  have f2 : decide (4000000000000000 < t2) = false := by simpa using b1
  have f3 : decide (4000000000000000 < t3) = false := by simpa using c1
  have f4 : decide (4000000000000000 < t4) = false := by simpa using e1
  go_enter Try.func8, Try.ntmps8
  go_wp2_with fail
  go_loop [24] (fun i => ∃ k : Nat, k ≤ 4 ∧ i = .int .i64 k) (fun i => 4 - (intOf i).toNat)
  case atStart => exact ⟨0, by omega, rfl⟩
  case round =>
    obtain ⟨k, hk, rfl⟩ := hrel
    have hc : k = 0 ∨ k = 1 ∨ k = 2 ∨ k = 3 ∨ k = 4 := by omega
    rcases hc with rfl | rfl | rfl | rfl | rfl
    · go_wp2_with fail
      exact ⟨⟨1, by omega, by simp⟩, by simp [intOf]⟩
    · go_wp2_with fail
      exact ⟨⟨2, by omega, by simp⟩, by simp [intOf]⟩
    · go_wp2_with fail
      exact ⟨⟨3, by omega, by simp⟩, by simp [intOf]⟩
    · go_wp2_with fail
      exact ⟨⟨4, by omega, by simp⟩, by simp [intOf]⟩
    · go_wp2_with fail
      refine (HOf _ HA.out HB.out).mono ?_
      rintro e w' ⟨rfl, rfl⟩
      go_wp2_with fail
      refine (HO _).mono ?_
      rintro e w' ⟨rfl, rfl⟩
      go_wp2_with fail
      refine (HD _).mono ?_
      rintro e w' ⟨rfl, rfl⟩
      go_wp2_with fail
      refine bodyPost_ret (v := .tuple #[.int .i64 ((t2 - t1 - (t4 - t3)) / 2), .int .i64 ((t2 - t1 + (t4 - t3)) / 2), .bool true]) (by simp [results, Try.results8, go_sem]) rfl ⟨rfl, rfl⟩

theorem Exchange_out (t1 t2 t3 t4 : Int) (h : ¬ (InS t1 ∧ InS t2 ∧ InS t3 ∧ InS t4)) (w : World) :
    Calls Try.prog 8 #[.int .i64 t1, .int .i64 t2, .int .i64 t3, .int .i64 t4] w fun e w' => e = .returned (.tuple #[.int .i64 0, .int .i64 0, .bool false]) ∧ w = w' := by
  have step : ∀ t, ¬ InS t → decide (t < 0) = true ∨ (decide (t < 0) = false ∧ decide (4000000000000000 < t) = true) := by
    intro t ht
    unfold InS at ht
    by_cases h0 : t < 0
    · exact .inl (by simpa using h0)
    · exact .inr ⟨by simpa using h0, by simp; omega⟩
  have good : ∀ t, InS t → decide (t < 0) = false ∧ decide (4000000000000000 < t) = false := by
    intro t ht
    exact ⟨by simpa using ht.1, by simpa using ht.2⟩
  have cases4 : (¬ InS t1) ∨ (InS t1 ∧ ¬ InS t2) ∨ (InS t1 ∧ InS t2 ∧ ¬ InS t3) ∨ (InS t1 ∧ InS t2 ∧ InS t3 ∧ ¬ InS t4) := by
    unfold InS at *; omega
  have ST := hide step
  have GO := hide good
  clear step good h
  rcases cases4 with n1 | ⟨y1, n2⟩ | ⟨y1, y2, n3⟩ | ⟨y1, y2, y3, n4⟩
  · have n := ST.out _ n1
    clear n1
    rcases n with n | ⟨n, n'⟩
    all_goals
      go_enter Try.func8, Try.ntmps8
      go_wp2_with fail
      go_loop [24] (fun i => i = .int .i64 0) (fun _ => 0)
      case atStart => exact rfl
      case round =>
        obtain rfl := hrel
        go_wp2_with fail
        refine bodyPost_ret (v := .tuple #[.int .i64 0, .int .i64 0, .bool false]) (by simp [results, Try.results8, go_sem]) rfl ⟨rfl, rfl⟩
  · have n := ST.out _ n2
    obtain ⟨p1, p1'⟩ := GO.out _ y1
    clear y1 n2
    rcases n with n | ⟨n, n'⟩
    all_goals
      go_enter Try.func8, Try.ntmps8
      go_wp2_with fail
      go_loop [24] (fun i => ∃ k : Nat, k ≤ 1 ∧ i = .int .i64 k) (fun i => 1 - (intOf i).toNat)
      case atStart => exact ⟨0, by omega, rfl⟩
      case round =>
        obtain ⟨k, hk, rfl⟩ := hrel
        have hc : k = 0 ∨ k = 1 := by omega
        rcases hc with rfl | rfl
        · go_wp2_with fail
          exact ⟨⟨1, by omega, by simp⟩, by simp [intOf]⟩
        · go_wp2_with fail
          refine bodyPost_ret (v := .tuple #[.int .i64 0, .int .i64 0, .bool false]) (by simp [results, Try.results8, go_sem]) rfl ⟨rfl, rfl⟩
  · have n := ST.out _ n3
    obtain ⟨p1, p1'⟩ := GO.out _ y1
    obtain ⟨p2, p2'⟩ := GO.out _ y2
    clear y1 y2 n3
    rcases n with n | ⟨n, n'⟩
    all_goals
      go_enter Try.func8, Try.ntmps8
      go_wp2_with fail
      go_loop [24] (fun i => ∃ k : Nat, k ≤ 2 ∧ i = .int .i64 k) (fun i => 2 - (intOf i).toNat)
      case atStart => exact ⟨0, by omega, rfl⟩
      case round =>
        obtain ⟨k, hk, rfl⟩ := hrel
        have hc : k = 0 ∨ k = 1 ∨ k = 2 := by omega
        rcases hc with rfl | rfl | rfl
        · go_wp2_with fail
          exact ⟨⟨1, by omega, by simp⟩, by simp [intOf]⟩
        · go_wp2_with fail
          exact ⟨⟨2, by omega, by simp⟩, by simp [intOf]⟩
        · go_wp2_with fail
          refine bodyPost_ret (v := .tuple #[.int .i64 0, .int .i64 0, .bool false]) (by simp [results, Try.results8, go_sem]) rfl ⟨rfl, rfl⟩
  · have n := ST.out _ n4
    obtain ⟨p1, p1'⟩ := GO.out _ y1
    obtain ⟨p2, p2'⟩ := GO.out _ y2
    obtain ⟨p3, p3'⟩ := GO.out _ y3
    clear y1 y2 y3 n4
    rcases n with n | ⟨n, n'⟩
    all_goals
      go_enter Try.func8, Try.ntmps8
      go_wp2_with fail
      go_loop [24] (fun i => ∃ k : Nat, k ≤ 3 ∧ i = .int .i64 k) (fun i => 3 - (intOf i).toNat)
      case atStart => exact ⟨0, by omega, rfl⟩
      case round =>
        obtain ⟨k, hk, rfl⟩ := hrel
        have hc : k = 0 ∨ k = 1 ∨ k = 2 ∨ k = 3 := by omega
        rcases hc with rfl | rfl | rfl | rfl
        · go_wp2_with fail
          exact ⟨⟨1, by omega, by simp⟩, by simp [intOf]⟩
        · go_wp2_with fail
          exact ⟨⟨2, by omega, by simp⟩, by simp [intOf]⟩
        · go_wp2_with fail
          exact ⟨⟨3, by omega, by simp⟩, by simp [intOf]⟩
        · go_wp2_with fail
          refine bodyPost_ret (v := .tuple #[.int .i64 0, .int .i64 0, .bool false]) (by simp [results, Try.results8, go_sem]) rfl ⟨rfl, rfl⟩

theorem awake_any (w : World) : Calls Try.prog 10 #[] w fun e w' => e = .returned (.bool true) ∧ w = w' := by
  have H := Exchange_in 100 160 200 240 ⟨by decide, by decide⟩ ⟨by decide, by decide⟩ ⟨by decide, by decide⟩ ⟨by decide, by decide⟩
  rw [show ((160 : Int) - 100 - (240 - 200)) / 2 = 10 from by decide, show ((160 : Int) - 100 + (240 - 200)) / 2 = 50 from by decide] at H
  go_enter Try.func10, Try.ntmps10
  go_wp2_with fail
  refine (H _).mono ?_
  rintro e w' ⟨rfl, rfl⟩
  go_wp2_with fail
  go_ret
  exact ⟨rfl, rfl⟩

theorem place_emod {v n : Int} (hn : 0 < n) : (v.tmod n < 0 → v.tmod n + n = v % n) ∧ (0 ≤ v.tmod n → v.tmod n = v % n) := by
  have h1 := Int.tmod_add_mul_tdiv v n
  have h2 := Int.emod_add_mul_ediv v n
  have h3 := Int.emod_nonneg v (b := n) (by omega)
  have h4 := Int.emod_lt_of_pos v hn
  constructor
  · intro h
    rw [Int.tmod_eq_emod] at h ⊢
    split at h <;> rename_i hc
    · omega
    · rw [if_neg hc]
      omega
  · intro h
    rw [Int.tmod_eq_emod] at h ⊢
    split at h <;> rename_i hc
    · rw [if_pos hc]; simp
    · omega
theorem place_any (v n : Int) (w : World) (hn0 : 0 < n) (hn1 : n ≤ 4611686018427387904) :
    Calls Try.prog 11 #[.int .i64 v, .int .i64 n] w fun e w' => e = .returned (.int .i64 (v % n)) ∧ w = w' := by
  have h1 := (place_emod (v := v) hn0).1
  have h2 := (place_emod (v := v) hn0).2
  have h3 := Int.emod_nonneg v (b := n) (by omega)
  have h4 := Int.emod_lt_of_pos v hn0
  have H1 := hide h1; clear h1
  have H2 := hide h2; clear h2
  go_enter Try.func11, Try.ntmps11
  go_wp2
  · go_ret
    refine ⟨ret_int ?_, rfl⟩
    have h : v.tmod n < 0 := by assumption
    rw [H1.out h]
    unfold wrap64
    omega
  · go_ret
    refine ⟨ret_int ?_, rfl⟩
    exact H2.out (by assumption)
end Go.Proofs.Ytppfmnbedihfcaa
