/- The mean; what the statement on means calls. -/
import Derived.Test.YtppfmnbedihfcaaPr
import Derived.Deep.AppendLies
import Derived.OwnWalk
namespace Go.Proofs.Ytppfmnbedihfcaa
open Go.RowKit

theorem cmp_cases (a b : Int) : (a < b ∧ compare a b = .lt) ∨ (a = b ∧ compare a b = .eq) ∨ (b < a ∧ compare a b = .gt) := by
  have e : compare a b = compareOfLessAndEq a b := rfl
  rw [e]
  unfold compareOfLessAndEq
  rcases Int.lt_trichotomy a b with h | h | h
  · exact .inl ⟨h, if_pos h⟩
  · subst h; exact .inr (.inl ⟨rfl, by simp⟩)
  · exact .inr (.inr ⟨h, by rw [if_neg (by omega), if_neg (by omega)]⟩)
theorem ord_fl {a b : Int} (ha : InB a) (hb : InB b) : FloatKind.f64.format.order (fl a) (fl b) = some (compare a b) := order_rd (fl_rd a ha.small) (fl_rd b hb.small)

theorem min_fl {P : Program} (ats : Array TypeId) (ty : TypeId) (a b : Int) (ha : InB a) (hb : InB b) (w : World) : (Builtin.min_ ats ty #[.float .f64 (fl a), .float .f64 (fl b)]).run P w = .ok (.float .f64 (fl (min a b))) w := by
  rw [min_two]
  simp only [Builtin.min2]
  rw [ord_fl ha hb]
  rcases cmp_cases a b with ⟨h, e⟩ | ⟨h, e⟩ | ⟨h, e⟩
  · rw [e, show min a b = a by omega]; rfl
  · subst h
    rw [e, show min a a = a by omega]
    simp
  · rw [e, show min a b = b by omega]; rfl
theorem max_fl {P : Program} (ats : Array TypeId) (ty : TypeId) (a b : Int) (ha : InB a) (hb : InB b) (w : World) : (Builtin.max_ ats ty #[.float .f64 (fl a), .float .f64 (fl b)]).run P w = .ok (.float .f64 (fl (max a b))) w := by
  rw [max_two]
  simp only [Builtin.max2]
  rw [ord_fl ha hb]
  rcases cmp_cases a b with ⟨h, e⟩ | ⟨h, e⟩ | ⟨h, e⟩
  · rw [e, show max a b = b by omega]; rfl
  · subst h
    rw [e, show max a a = a by omega]
    simp
  · rw [e, show max a b = a by omega]; rfl

theorem between_any (v s t : Int) (hv : InB v) (hs : InB s) (ht : InB t) (h0 : min s t ≤ v) (h1 : v ≤ max s t) (w : World) :
    Calls Try.prog 18 #[.float .f64 (fl v), .float .f64 (fl s), .float .f64 (fl t)] w fun e w' => e = .returned (.bool true) ∧ w = w' := by
  have hm : InB (min s t) := by unfold InB at *; omega
  have hM : InB (max s t) := by unfold InB at *; omega
  have H1 := min_fl (P := Try.prog) #[33, 33] 33 s t hs ht w
  have H2 := max_fl (P := Try.prog) #[33, 33] 33 s t hs ht w
  have o1 := ord_fl hv hm
  have o2 := ord_fl hv hM
  have c1 : compare v (min s t) = .eq ∨ compare v (min s t) = .gt := by
    rcases cmp_cases v (min s t) with ⟨h, e⟩ | ⟨h, e⟩ | ⟨h, e⟩
    · omega
    · exact .inl e
    · exact .inr e
  have c2 : compare v (max s t) = .eq ∨ compare v (max s t) = .lt := by
    rcases cmp_cases v (max s t) with ⟨h, e⟩ | ⟨h, e⟩ | ⟨h, e⟩
    · exact .inr e
    · exact .inl e
    · omega
  clear hm hM h0 h1 hv hs ht
  generalize fl v = V at *
  generalize fl s = S at *
  generalize fl t = T at *
  generalize fl (min s t) = M at *
  generalize fl (max s t) = N at *
  rcases c1 with c1 | c1 <;> rcases c2 with c2 | c2 <;> rw [c1] at o1 <;> rw [c2] at o2 <;> clear c1 c2
  all_goals
    go_enter Try.func18, Try.ntmps18
    go_wp2_with fail
    go_ret
    exact ⟨rfl, rfl⟩

theorem p_any (v : Int) (w : World) : Calls Try.prog 16 #[.int .i64 v] w fun e w' => e = .returned (.int .i64 (v % 2000001 - 1000000)) ∧ w = w' := by
  have p0 := Int.emod_nonneg v (b := 2000001) (by omega)
  have p1 := Int.emod_lt_of_pos v (b := 2000001) (by omega)
  go_enter Try.func16, Try.ntmps16
  go_wp2_with fail
  refine (place_any _ _ _ (by omega) (by omega)).mono ?_
  rintro e u1 ⟨rfl, rfl⟩
  go_wp2_with fail
  go_ret
  exact ⟨rfl, rfl⟩

theorem Parts_fl (a b : Int) (ha : InB a) (hb : InB b) (w : World) : Calls Try.prog 23 #[.complex .f64 (fl a) (fl b)] w fun e w' => e = .returned (.tuple #[.int .i64 a, .int .i64 b, .bool true]) ∧ w = w' := by
  have HI := is_fl a b ha hb
  have HA := toInt_fl a ha.small w
  have HB := toInt_fl b hb.small w
  clear ha hb
  generalize fl a = x at *
  generalize fl b = y at *
  go_enter Try.func23, Try.ntmps23
  go_wp2_with fail
  refine (HI _).mono ?_
  rintro e w' ⟨rfl, rfl⟩
  go_wp2_with fail
  refine bodyPost_ret (v := .tuple #[.int .i64 a, .int .i64 b, .bool true]) (by simp [results, Try.results23, go_sem]) rfl ⟨rfl, rfl⟩

theorem floor_n (a n : Int) (hn : 0 < n) : (a < a.tdiv n * n → a / n = a.tdiv n - 1) ∧ (¬ a < a.tdiv n * n → a / n = a.tdiv n) ∧ -(a.natAbs : Int) ≤ a.tdiv n ∧ a.tdiv n ≤ a.natAbs ∧ -(a.natAbs : Int) ≤ a.tdiv n * n ∧ a.tdiv n * n ≤ a.natAbs := by
  have h1 := Int.tmod_add_mul_tdiv a n
  have h2 := Int.emod_add_mul_ediv a n
  have h3 := Int.emod_nonneg a (b := n) (by omega)
  have h4 := Int.emod_lt_of_pos a hn
  rw [Int.mul_comm] at h1
  rcases Int.le_total 0 a with h | h
  · have e := Int.tdiv_eq_ediv_of_nonneg (b := n) h
    have e2 : 0 ≤ a / n := Int.ediv_nonneg h (by omega)
    have e3 : a / n ≤ a := Int.ediv_le_self n h
    rw [e] at h1 ⊢
    have e4 : a / n * n ≤ a := Int.ediv_mul_le a (by omega)
    have e5 : 0 ≤ a / n * n := Int.mul_nonneg e2 (by omega)
    refine ⟨fun hc => by omega, fun _ => rfl, by omega, by omega, by omega, by omega⟩
  · have e : a.tdiv n = -((-a).tdiv n) := by rw [Int.neg_tdiv, Int.neg_neg]
    have f := Int.tdiv_eq_ediv_of_nonneg (a := -a) (b := n) (by omega)
    have e2 : 0 ≤ (-a) / n := Int.ediv_nonneg (by omega) (by omega)
    have e3 : (-a) / n ≤ -a := Int.ediv_le_self n (by omega)
    have e4 : (-a) / n * n ≤ -a := Int.ediv_mul_le (-a) (by omega)
    have e5 : 0 ≤ (-a) / n * n := Int.mul_nonneg e2 (by omega)
    have g2 := Int.emod_add_mul_ediv (-a) n
    have g3 := Int.emod_nonneg (-a) (b := n) (by omega)
    have g4 := Int.emod_lt_of_pos (-a) hn
    rw [e, f, Int.neg_mul]
    rw [Int.mul_comm] at g2 h2
    generalize hq : (-a) / n = q at *
    generalize hp : a / n = p at *
    refine ⟨fun hc => ?_, fun hc => ?_, by omega, by omega, by omega, by omega⟩
    · have k : (p + q) * n = -(a % n) - (-a) % n := by rw [Int.add_mul]; omega
      have hs : 0 < (-a) % n := by omega
      have k1 : (p + q) * n < 0 := by omega
      have k2 : -(2 * n) < (p + q) * n := by omega
      have k3 : p + q < 0 := by
        rcases (by omega : p + q < 0 ∨ 0 ≤ p + q) with h | h
        · exact h
        · have := Int.mul_nonneg h (by omega : 0 ≤ n); omega
      have k4 : -2 < p + q := by
        rcases (by omega : -2 < p + q ∨ p + q ≤ -2) with h | h
        · exact h
        · have : (p + q) * n ≤ -2 * n := Int.mul_le_mul_of_nonneg_right h (by omega)
          omega
      omega
    · have hz : (-a) % n = 0 := by omega
      have k : (p + q) * n = -(a % n) := by rw [Int.add_mul]; omega
      have k2 : -n < (p + q) * n := by omega
      have k3 : p + q ≤ 0 := by
        rcases (by omega : 0 < p + q ∨ p + q ≤ 0) with h | h
        · have : 1 * n ≤ (p + q) * n := Int.mul_le_mul_of_nonneg_right (by omega) (by omega)
          omega
        · exact h
      have k4 : -1 < p + q := by
        rcases (by omega : -1 < p + q ∨ p + q ≤ -1) with h | h
        · exact h
        · have : (p + q) * n ≤ -1 * n := Int.mul_le_mul_of_nonneg_right h (by omega)
          omega
      omega

theorem down_any (a n : Int) (hn : 0 < n) (hn1 : n ≤ 1000) (ha : -9000000000000000 ≤ a ∧ a ≤ 9000000000000000) (w : World) : Calls Try.prog 24 #[.int .i64 a, .int .i64 n] w fun e w' => e = .returned (.int .i64 (a / n)) ∧ w = w' := by
  obtain ⟨f1, f2, f3, f4, f5, f6⟩ := floor_n a n hn
  have b0 : -9000000000000000 ≤ a.tdiv n := by omega
  have b1 : a.tdiv n ≤ 9000000000000000 := by omega
  have b2 : -9000000000000000 ≤ a.tdiv n * n := by omega
  have b3 : a.tdiv n * n ≤ 9000000000000000 := by omega
  have F1 := hide f1
  have F2 := hide f2
  have hne : ¬ n = 0 := by omega
  have w1_ : IntKind.i64.wrap (a.tdiv n) = a.tdiv n := IntWalk.i64_in _ (by omega)
  have w2_ : IntKind.i64.wrap (a.tdiv n * n) = a.tdiv n * n := IntWalk.i64_in _ (by omega)
  clear f1 f2 f3 f4 f5 f6 ha
  go_enter Try.func24, Try.ntmps24
  go_wp2_with fail
  · have hc : a < a.tdiv n * n := by assumption
    go_ret
    exact ⟨ret_int (F1.out hc).symm, rfl⟩
  · have hc : ¬ a < a.tdiv n * n := by first | assumption | exact Int.not_lt.2 (by assumption)
    go_ret
    exact ⟨ret_int (F2.out (by omega)).symm, rfl⟩

theorem div_bd (a n : Int) (hn : 0 < n) (h : -1000000000 ≤ a ∧ a ≤ 1000000000) : InB (a / n) := by
  obtain ⟨f1, f2, f3, f4, _, _⟩ := floor_n a n hn
  unfold InB
  by_cases hc : a < a.tdiv n * n
  · have := f1 hc; omega
  · have := f2 hc; omega

def sumA (ps : List (Int × Int)) : Int := (ps.map Prod.fst).sum
def sumB (ps : List (Int × Int)) : Int := (ps.map Prod.snd).sum
theorem sum_succ (ps : List (Int × Int)) (k : Nat) (x : Int × Int) (h : ps[k]? = some x) : sumA (ps.take (k + 1)) = sumA (ps.take k) + x.1 ∧ sumB (ps.take (k + 1)) = sumB (ps.take k) + x.2 := by
  have e : ps.take (k + 1) = ps.take k ++ [x] := by rw [List.take_add_one, h]; rfl
  rw [e]
  simp [sumA, sumB]
def Near (ps : List (Int × Int)) : Prop := ∀ x ∈ ps, (-1000000 ≤ x.1 ∧ x.1 ≤ 1000000) ∧ (-1000000 ≤ x.2 ∧ x.2 ≤ 1000000)
theorem sum_bd : ∀ (ps : List (Int × Int)), Near ps → (-(1000000 * (ps.length : Int)) ≤ sumA ps ∧ sumA ps ≤ 1000000 * (ps.length : Int)) ∧ (-(1000000 * (ps.length : Int)) ≤ sumB ps ∧ sumB ps ≤ 1000000 * (ps.length : Int))
  | [], _ => by simp [sumA, sumB]
  | x :: ps, h => by
    have h1 := h x (by simp)
    have h2 := sum_bd ps (fun y hy => h y (by simp [hy]))
    simp only [sumA, sumB, List.map_cons, List.sum_cons, List.length_cons] at h2 ⊢
    push_cast
    omega
theorem near_take {ps : List (Int × Int)} (h : Near ps) (k : Nat) : Near (ps.take k) := fun x hx => h x (List.mem_of_mem_take hx)

set_option maxHeartbeats 1000000 in
theorem Mean_any (g c : Nat) (ps : List (Int × Int)) (w : World) (hn : 1 ≤ ps.length) (hn1 : ps.length ≤ 1000) (hb : Near ps)
    (hcell : ∀ i x, ps[i]? = some x → w.cell? ⟨g, i, none⟩ = some (.complex .f64 (fl x.1) (fl x.2))) :
    Calls Try.prog 17 #[.slice (some ⟨g, 0, none⟩) ps.length c] w fun e w' => e = .returned (.tuple #[.complex .f64 (fl (sumA ps / ps.length)) (fl (sumB ps / ps.length)), .bool true]) ∧ w = w' := by
  have HC := hide hcell
  have HB := hide hb
  clear hcell hb
  obtain ⟨n, hN⟩ : ∃ n, ps.length = n := ⟨_, rfl⟩
  have HN := hide hN
  rw [hN] at hn hn1 ⊢
  clear hN
  have d1 : ¬ (n : Int) < 1 := by omega
  have d2 : ¬ (1000 : Int) < (n : Int) := by omega
  go_enter Try.func17, Try.ntmps17
  go_wp2_with fail
  clear d1 d2
  go_loop [4, 5, 20] (fun a b i => ∃ k : Nat, k ≤ n ∧ i = .int .i64 k ∧ a = .int .i64 (sumA (ps.take k)) ∧ b = .int .i64 (sumB (ps.take k))) (fun _ _ i => n - (intOf i).toNat)
  case atStart => exact ⟨0, by omega, rfl, rfl, rfl⟩
  case round =>
    obtain ⟨k, hk, rfl, rfl, rfl⟩ := hrel
    have hsb := sum_bd _ (near_take HB.out k)
    have hlk : ((ps.take k).length : Int) ≤ 1000 := by have := HN.out; simp; omega
    have A0 : -1000000000 ≤ sumA (ps.take k) := by omega
    have A1 : sumA (ps.take k) ≤ 1000000000 := by omega
    have B0 : -1000000000 ≤ sumB (ps.take k) := by omega
    have B1 : sumB (ps.take k) ≤ 1000000000 := by omega
    clear hsb hlk
    by_cases hkn : k < n
    · obtain ⟨x, hx⟩ : ∃ x, ps[k]? = some x := ⟨_, List.getElem?_eq_getElem (by rw [HN.out]; exact hkn)⟩
      have hc := HC.out k x hx
      have hxn := HB.out x (List.mem_of_getElem? hx)
      have HS := hide (sum_succ ps k x hx)
      have hkn' : (k : Int) < (n : Int) := by omega
      obtain ⟨⟨x0, x1⟩, ⟨y0, y1⟩⟩ := hxn
      clear hx
      generalize sumA (ps.take k) = SA at *
      generalize sumB (ps.take k) = SB at *
      have HP := hide (Parts_fl x.1 x.2 ⟨by omega, by omega⟩ ⟨by omega, by omega⟩)
      go_wp2_with fail
      refine (HP.out _).mono ?_
      rintro e w' ⟨rfl, rfl⟩
      go_wp2_with fail
      exact ⟨⟨k + 1, by omega, by simp, by rw [HS.out.1], by rw [HS.out.2]⟩, by simp [intOf]; omega⟩
    · obtain rfl : k = n := by omega
      have e : ps.take k = ps := List.take_of_length_le (by rw [HN.out]; exact Nat.le_refl _)
      rw [e] at A0 A1 B0 B1 ⊢
      clear e
      have hkp : (0 : Int) < (k : Int) := by omega
      have HA := hide (div_bd (sumA ps) k hkp ⟨A0, A1⟩)
      have HBB := hide (div_bd (sumB ps) k hkp ⟨B0, B1⟩)
      have D1 := hide (down_any (sumA ps) k hkp (by omega) ⟨by omega, by omega⟩)
      have D2 := hide (down_any (sumB ps) k hkp (by omega) ⟨by omega, by omega⟩)
      go_wp2_with fail
      refine (D1.out _).mono ?_
      rintro e w' ⟨rfl, rfl⟩
      go_wp2_with fail
      refine (D2.out _).mono ?_
      rintro e w' ⟨rfl, rfl⟩
      have HO := hide (Of_in (sumA ps / k) (sumB ps / k) w HA.out HBB.out)
      generalize hqa : sumA ps / (k : Int) = qa at *
      generalize hqb : sumB ps / (k : Int) = qb at *
      have HQA := hide hqa
      have HQB := hide hqb
      clear hqa hqb
      go_wp2_with fail
      refine HO.out.mono ?_
      rintro e w' ⟨rfl, rfl⟩
      go_wp2_with fail
      refine bodyPost_ret (v := .tuple #[.complex .f64 (fl qa) (fl qb), .bool true]) (by simp [results, Try.results17, go_sem]) rfl ⟨by rw [← HQA.out, ← HQB.out], rfl⟩

theorem Mean_nil (w : World) : Calls Try.prog 17 #[.slice none 0 0] w fun e w' => e = .returned (.tuple #[.complex .f64 0 0, .bool false]) ∧ w = w' := by
  go_enter Try.func17, Try.ntmps17
  go_wp2_with fail
  go_ret2
  exact ⟨rfl, rfl⟩
end Go.Proofs.Ytppfmnbedihfcaa
