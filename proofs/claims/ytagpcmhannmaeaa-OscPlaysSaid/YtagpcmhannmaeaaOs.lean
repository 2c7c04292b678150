/- The oscillator, as a plain machine over whole numbers; contracts of package osc. -/
import Derived.Test.YtagpcmhannmaeaaObj
namespace Go.Proofs.Ytagpcmhannmaeaa
open Go.RowKit
attribute [local go_sem] max_two min_two max2_max min2_min

theorem emod_of_tmod {v n : Int} (hn : 0 < n) : (v.tmod n < 0 → v.tmod n + n = v % n) ∧ (0 ≤ v.tmod n → v.tmod n = v % n) := by
  have h1 := Int.tmod_add_mul_tdiv v n
  have h2 := Int.emod_add_mul_ediv v n
  have h3 := Int.emod_nonneg v (b := n) (by omega)
  have h4 := Int.emod_lt_of_pos v hn
  constructor
  · intro h
    rw [Int.tmod_eq_emod] at h ⊢
    split at h <;> rename_i hc
    · omega
    · rw [if_neg hc]
      omega
  · intro h
    rw [Int.tmod_eq_emod] at h ⊢
    split at h <;> rename_i hc
    · rw [if_pos hc]; simp
    · omega

theorem place_any (v n : Int) (w : World) (hn0 : 0 < n) (hn1 : n ≤ 4611686018427387904) :
    Calls Try.prog 7 #[.int .i64 v, .int .i64 n] w fun e w' => e = .returned (.int .i64 (v % n)) ∧ w = w' := by
  have h1 := (emod_of_tmod (v := v) hn0).1
  have h2 := (emod_of_tmod (v := v) hn0).2
  have h3 := Int.emod_nonneg v (b := n) (by omega)
  have h4 := Int.emod_lt_of_pos v hn0
  have H1 := hide h1; clear h1
  have H2 := hide h2; clear h2
  go_enter Try.func7, Try.ntmps7
  go_wp2
  · go_ret
    refine ⟨ret_int ?_, rfl⟩
    have h : v.tmod n < 0 := by assumption
    rw [H1.out h]
    unfold wrap64
    omega
  · go_ret
    refine ⟨ret_int ?_, rfl⟩
    exact H2.out (by assumption)

def cut3 (v lo hi : Int) : Int := max lo (min v hi)
def stampI (v : Int) : Int := cut3 v 0 4000000000000000
def rateI (v : Int) : Int := cut3 v (-512000) 512000
theorem stampI_bd (v : Int) : 0 ≤ stampI v ∧ stampI v ≤ 4000000000000000 := by unfold stampI cut3; omega
theorem rateI_bd (v : Int) : -512000 ≤ rateI v ∧ rateI v ≤ 512000 := by unfold rateI cut3; omega

theorem cut_any (v lo hi : Int) (w : World) : Calls Try.prog 24 #[.int .i64 v, .int .i64 lo, .int .i64 hi] w fun e w' => e = .returned (.int .i64 (cut3 v lo hi)) ∧ w = w' := by
  go_enter Try.func24, Try.ntmps24
  go_wp2
  go_ret
  exact ⟨rfl, rfl⟩
theorem stamp_any (v : Int) (w : World) : Calls Try.prog 21 #[.int .i64 v] w fun e w' => e = .returned (.int .i64 (stampI v)) ∧ w = w' := by
  go_enter Try.func21, Try.ntmps21
  go_wp2_with fail
  refine (cut_any _ _ _ _).mono ?_
  rintro e w' ⟨rfl, rfl⟩
  go_wp2
  go_ret
  exact ⟨rfl, rfl⟩
theorem rate_any (v : Int) (w : World) : Calls Try.prog 22 #[.int .i64 v] w fun e w' => e = .returned (.int .i64 (rateI v)) ∧ w = w' := by
  go_enter Try.func22, Try.ntmps22
  go_wp2_with fail
  refine (cut_any _ _ _ _).mono ?_
  rintro e w' ⟨rfl, rfl⟩
  go_wp2
  go_ret
  exact ⟨rfl, rfl⟩

structure Oc where
  at_ : Int
  loc : Int
  rate : Int
  freq : Int

def Oc.cells (o : Oc) : Array Value := #[.int .i64 o.at_, .int .i64 o.loc, .int .i64 o.rate, .int .i64 o.freq]
/-- In a block of type t: 40 is the program's, 37 the reference's. -/
def OsAt (t : TypeId) (w : World) (b : Nat) (o : Oc) : Prop := Blk w b t o.cells
structure Oc.Ok (o : Oc) : Prop where
  at_ : 0 ≤ o.at_ ∧ o.at_ ≤ 4000000000000000
  loc : 0 ≤ o.loc ∧ o.loc ≤ 4000000000000000
  rate : -512000 ≤ o.rate ∧ o.rate ≤ 512000
  freq : -512000 ≤ o.freq ∧ o.freq ≤ 512000

def Oc.new (l r : Int) : Oc := ⟨0, stampI l, rateI r, 0⟩
def Oc.time (o : Oc) (t : Int) : Int := cut3 t o.at_ 4000000000000000
def Oc.ago (o : Oc) (t : Int) : Int := o.time t - o.at_
/-- d and what is gained in it: rounded down. -/
def gain (d r : Int) : Int := d / 1000000000 * r + d % 1000000000 * r / 1000000000
def Oc.read (o : Oc) (t : Int) : Int := stampI (o.loc + o.ago t + gain (o.ago t) (o.rate + o.freq))
def Oc.anchor (o : Oc) (t : Int) : Oc := { o with loc := o.read t, at_ := o.time t }
def Oc.setRate (o : Oc) (t r : Int) : Oc := { o.anchor t with rate := rateI r }
def Oc.setFreq (o : Oc) (t f : Int) : Oc := { o.anchor t with freq := rateI f }
def Oc.step (o : Oc) (t by_ : Int) : Oc := { o.anchor t with loc := stampI (o.read t + cut3 by_ (-4000000000000000) 4000000000000000) }

theorem time_bd {o : Oc} (h : o.Ok) (t : Int) : o.at_ ≤ o.time t ∧ o.time t ≤ 4000000000000000 := by
  have := h.at_
  unfold Oc.time cut3
  omega
theorem mul_bd {a x A X : Int} (ha0 : 0 ≤ a) (ha1 : a ≤ A) (hx0 : -X ≤ x) (hx1 : x ≤ X) (hX : 0 ≤ X) : -(A * X) ≤ a * x ∧ a * x ≤ A * X := by
  have h1 : a * x ≤ a * X := Int.mul_le_mul_of_nonneg_left hx1 ha0
  have h2 : a * X ≤ A * X := Int.mul_le_mul_of_nonneg_right ha1 hX
  have h3 : a * (-X) ≤ a * x := Int.mul_le_mul_of_nonneg_left hx0 ha0
  rw [Int.mul_neg] at h3
  constructor <;> omega
/-- Rounded towards nothing, and down. -/
theorem floor_of (p : Int) : -(p.natAbs : Int) ≤ p.tdiv 1000000000 ∧ p.tdiv 1000000000 ≤ p.natAbs ∧ (p ≥ p.tdiv 1000000000 * 1000000000 → p / 1000000000 = p.tdiv 1000000000) ∧ (p < p.tdiv 1000000000 * 1000000000 → p / 1000000000 = p.tdiv 1000000000 - 1) := by
  rcases Int.le_total 0 p with h | h
  · rw [Int.tdiv_eq_ediv_of_nonneg h]
    omega
  · have e : p.tdiv 1000000000 = -((-p).tdiv 1000000000) := by rw [Int.neg_tdiv, Int.neg_neg]
    rw [e, Int.tdiv_eq_ediv_of_nonneg (by omega)]
    omega

theorem new_any (l r : Int) (w : World) :
    Calls Try.prog 8 #[.int .i64 l, .int .i64 r] w fun e w' => e = .returned (.pointer (some ⟨w.heap.size, 0, none⟩)) ∧ OsAt 40 w' w.heap.size (Oc.new l r) ∧ w.grownBy w' none := by
  go_enter Try.func8, Try.ntmps8
  go_wp2_with fail
  refine (stamp_any _ _).mono ?_
  rintro e w' ⟨rfl, rfl⟩
  go_wp2_with fail
  refine (rate_any _ _).mono ?_
  rintro e w' ⟨rfl, rfl⟩
  go_wp2
  go_ret
  exact ⟨rfl, Blk.new _ _ _, gb_alloc (gb_refl _ _) _⟩
theorem getRate_any (b : Nat) (o : Oc) (w : World) (hb : OsAt 40 w b o) :
    Calls Try.prog 13 #[.pointer (some ⟨b, 0, none⟩)] w fun e w' => e = .returned (.int .i64 o.rate) ∧ w = w' := by
  have hc : w.cell? ⟨b, 2, none⟩ = some (.int .i64 o.rate) := Blk.cell hb 2
  go_enter Try.func13, Try.ntmps13
  go_wp2
  go_ret
  exact ⟨rfl, rfl⟩
theorem getFreq_any (b : Nat) (o : Oc) (w : World) (hb : OsAt 40 w b o) :
    Calls Try.prog 14 #[.pointer (some ⟨b, 0, none⟩)] w fun e w' => e = .returned (.int .i64 o.freq) ∧ w = w' := by
  have hc : w.cell? ⟨b, 3, none⟩ = some (.int .i64 o.freq) := Blk.cell hb 3
  go_enter Try.func14, Try.ntmps14
  go_wp2
  go_ret
  exact ⟨rfl, rfl⟩
theorem time_any (b : Nat) (o : Oc) (t : Int) (w : World) (hb : OsAt 40 w b o) :
    Calls Try.prog 25 #[.pointer (some ⟨b, 0, none⟩), .int .i64 t] w fun e w' => e = .returned (.int .i64 (o.time t)) ∧ w = w' := by
  have hc : w.cell? ⟨b, 0, none⟩ = some (.int .i64 o.at_) := Blk.cell hb 0
  go_enter Try.func25, Try.ntmps25
  go_wp2_with fail
  refine (cut_any _ _ _ _).mono ?_
  rintro e w' ⟨rfl, rfl⟩
  go_wp2
  go_ret
  exact ⟨rfl, rfl⟩

set_option maxRecDepth 100000 in
theorem read_any (b : Nat) (o : Oc) (t : Int) (w : World) (hb : OsAt 40 w b o) (hk : o.Ok) :
    Calls Try.prog 10 #[.pointer (some ⟨b, 0, none⟩), .int .i64 t] w fun e w' => e = .returned (.int .i64 (o.read t)) ∧ ∃ n, w' = w.drewN n := by
  have hc0 : w.cell? ⟨b, 0, none⟩ = some (.int .i64 o.at_) := Blk.cell hb 0
  have hc1 : w.cell? ⟨b, 1, none⟩ = some (.int .i64 o.loc) := Blk.cell hb 1
  have hc2 : w.cell? ⟨b, 2, none⟩ = some (.int .i64 o.rate) := Blk.cell hb 2
  have hc3 : w.cell? ⟨b, 3, none⟩ = some (.int .i64 o.freq) := Blk.cell hb 3
  obtain ⟨⟨at0, at1⟩, ⟨lo0, lo1⟩, ⟨ra0, ra1⟩, ⟨fr0, fr1⟩⟩ := hk
  have ht := time_bd (o := o) ⟨⟨at0, at1⟩, ⟨lo0, lo1⟩, ⟨ra0, ra1⟩, ⟨fr0, fr1⟩⟩ t
  have hRead : o.read t = stampI (o.loc + o.ago t + gain (o.ago t) (o.rate + o.freq)) := rfl
  have hAgo : o.time t - o.at_ = o.ago t := rfl
  have hd0 : 0 ≤ o.ago t := by rw [← hAgo]; omega
  have hd1 : o.ago t ≤ 4000000000000000 := by rw [← hAgo]; omega
  have hTA := ht
  rw [hRead]
  have w1_ : IntKind.i64.wrap (o.time t - o.at_) = o.ago t := by rw [hAgo]; exact IntWalk.i64_in _ (by omega)
  have w2_ : IntKind.i64.wrap (o.rate + o.freq) = o.rate + o.freq := IntWalk.i64_in _ (by omega)
  have hr0 : -1024000 ≤ o.rate + o.freq := by omega
  have hr1 : o.rate + o.freq ≤ 1024000 := by omega
  generalize o.ago t = d at *
  generalize hRr : o.rate + o.freq = r at *
  have HR := hide hRr
  clear hRr
  clear hAgo hRead ht hTA
  have hm0 : 0 ≤ d % 1000000000 := by omega
  have hm1 : d % 1000000000 ≤ 999999999 := by omega
  have hq0 : 0 ≤ d / 1000000000 := by omega
  have hq1 : d / 1000000000 ≤ 4000000 := by omega
  have hP := mul_bd hm0 hm1 hr0 hr1 (by omega)
  have hQ := mul_bd hq0 hq1 hr0 hr1 (by omega)
  have hF := floor_of (d % 1000000000 * r)
  have hG : gain d r = d / 1000000000 * r + d % 1000000000 * r / 1000000000 := rfl
  rw [hG]
  clear hG
  go_enter Try.func10, Try.ntmps10
  go_wp2_with fail
  refine wp_scope_fwd 0 rfl ?_
  go_wp2_with fail
  go_quiet ((go_at_call 25; exact quiet_left (time_any _ _ _ _ (Blk.drewN hb _))))
  clear w1_
  have hRr := HR.out
  go_wp2_with fail
  go_quiet (fail)
  clear w2_ hRr
  go_wp2_with fail
  · have hge : d % 1000000000 * r ≥ (d % 1000000000 * r).tdiv 1000000000 * 1000000000 := by assumption
    go_step3
    refine jump_goto ?_
    have e1 : d % 1000000000 * r / 1000000000 = (d % 1000000000 * r).tdiv 1000000000 := hF.2.2.1 hge
    have E1 := hide e1
    have b0 : -1024000000000000 ≤ (d % 1000000000 * r).tdiv 1000000000 := by omega
    have b1 : (d % 1000000000 * r).tdiv 1000000000 ≤ 1024000000000000 := by omega
    clear e1 hF hP
    go_wp2_with fail
    refine (stamp_any _ _).mono ?_
    rintro e w' ⟨rfl, rfl⟩
    go_wp2
    refine no_ret ?_
    go_ret
    exact ⟨ret_int (by rw [E1.out, ← Int.add_assoc]), _, rfl⟩
  · have hlt : d % 1000000000 * r < (d % 1000000000 * r).tdiv 1000000000 * 1000000000 := by assumption
    go_step3
    have e1 : d % 1000000000 * r / 1000000000 = (d % 1000000000 * r).tdiv 1000000000 - 1 := hF.2.2.2 hlt
    have E1 := hide e1
    have b0 : -1024000000000000 ≤ (d % 1000000000 * r).tdiv 1000000000 - 1 := by omega
    have b1 : (d % 1000000000 * r).tdiv 1000000000 - 1 ≤ 1024000000000000 := by omega
    clear e1 hF hP
    go_wp2_with fail
    refine (stamp_any _ _).mono ?_
    rintro e w' ⟨rfl, rfl⟩
    go_wp2
    refine jump_ret ?_
    go_ret
    exact ⟨ret_int (by rw [E1.out, ← Int.add_assoc]), _, rfl⟩

theorem read_bd (o : Oc) (t : Int) : 0 ≤ o.read t ∧ o.read t ≤ 4000000000000000 := stampI_bd _
theorem Oc.Ok.anchor {o : Oc} (h : o.Ok) (t : Int) : (o.anchor t).Ok :=
  ⟨⟨by have := (time_bd h t).1; have := h.at_.1; simp only [Oc.anchor]; omega, (time_bd h t).2⟩, read_bd o t, h.rate, h.freq⟩
theorem new_ok (l r : Int) : (Oc.new l r).Ok := ⟨by simp [Oc.new], stampI_bd l, rateI_bd r, by simp [Oc.new]⟩
theorem Oc.Ok.setRate {o : Oc} (h : o.Ok) (t r : Int) : (o.setRate t r).Ok := ⟨(h.anchor t).at_, (h.anchor t).loc, rateI_bd r, h.freq⟩
theorem Oc.Ok.setFreq {o : Oc} (h : o.Ok) (t r : Int) : (o.setFreq t r).Ok := ⟨(h.anchor t).at_, (h.anchor t).loc, h.rate, rateI_bd r⟩
theorem Oc.Ok.step {o : Oc} (h : o.Ok) (t r : Int) : (o.step t r).Ok := ⟨(h.anchor t).at_, stampI_bd _, h.rate, h.freq⟩

theorem anchor_any (b : Nat) (o : Oc) (t : Int) (w : World) (hb : OsAt 40 w b o) (hk : o.Ok) :
    Calls Try.prog 23 #[.pointer (some ⟨b, 0, none⟩), .int .i64 t] w fun e w' => e = .returned (.tuple #[]) ∧ OsAt 40 w' b (o.anchor t) ∧ w.grownBy w' (some b) := by
  go_enter Try.func23, Try.ntmps23
  go_wp2_with fail
  refine (read_any _ _ _ _ hb hk).mono ?_
  rintro e w' ⟨rfl, n, rfl⟩
  have hb1 : OsAt 40 (w.drewN n) b o := Blk.drewN hb n
  have hg1 : w.grownBy (w.drewN n) (some b) := gb_drewN (gb_refl _ _) n
  generalize w.drewN n = w1 at *
  have hc1 : w1.cell? ⟨b, 1, none⟩ = some (.int .i64 o.loc) := Blk.cell hb1 1
  have hf1 : w1.frozen? ⟨b, 1, none⟩ = false := Blk.free hb1 1
  have hb2 : OsAt 40 (w1.setCell ⟨b, 1, none⟩ (.int .i64 (o.read t))) b { o with loc := o.read t } := Blk.set hb1 1 _
  have hg2 := gb_set hg1 1 (.int .i64 (o.read t))
  go_wp2_with fail
  clear hc1 hf1 hb1 hg1
  generalize w1.setCell ⟨b, 1, none⟩ (.int .i64 (o.read t)) = w2 at *
  refine (time_any _ _ _ _ hb2).mono ?_
  rintro e w3 ⟨rfl, rfl⟩
  have hc0 : w2.cell? ⟨b, 0, none⟩ = some (.int .i64 o.at_) := Blk.cell hb2 0
  have hf0 : w2.frozen? ⟨b, 0, none⟩ = false := Blk.free hb2 0
  go_wp2
  go_end0
  exact ⟨rfl, Blk.set hb2 0 _, gb_set hg2 _ _⟩
theorem setRate_any (b : Nat) (o : Oc) (t r : Int) (w : World) (hb : OsAt 40 w b o) (hk : o.Ok) :
    Calls Try.prog 16 #[.pointer (some ⟨b, 0, none⟩), .int .i64 t, .int .i64 r] w fun e w' => e = .returned (.tuple #[]) ∧ OsAt 40 w' b (o.setRate t r) ∧ w.grownBy w' (some b) := by
  go_enter Try.func16, Try.ntmps16
  go_wp2_with fail
  refine (anchor_any _ _ _ _ hb hk).mono ?_
  rintro e w2 ⟨rfl, hb2, hg2⟩
  have hc0 : w2.cell? ⟨b, 2, none⟩ = some (.int .i64 o.rate) := Blk.cell hb2 2
  have hf0 : w2.frozen? ⟨b, 2, none⟩ = false := Blk.free hb2 2
  go_wp2_with fail
  refine (rate_any _ _).mono ?_
  rintro e w3 ⟨rfl, rfl⟩
  go_wp2
  go_end0
  exact ⟨rfl, Blk.set hb2 2 _, gb_set hg2 _ _⟩
theorem setFreq_any (b : Nat) (o : Oc) (t r : Int) (w : World) (hb : OsAt 40 w b o) (hk : o.Ok) :
    Calls Try.prog 12 #[.pointer (some ⟨b, 0, none⟩), .int .i64 t, .int .i64 r] w fun e w' => e = .returned (.tuple #[]) ∧ OsAt 40 w' b (o.setFreq t r) ∧ w.grownBy w' (some b) := by
  go_enter Try.func12, Try.ntmps12
  go_wp2_with fail
  refine (anchor_any _ _ _ _ hb hk).mono ?_
  rintro e w2 ⟨rfl, hb2, hg2⟩
  have hc0 : w2.cell? ⟨b, 3, none⟩ = some (.int .i64 o.freq) := Blk.cell hb2 3
  have hf0 : w2.frozen? ⟨b, 3, none⟩ = false := Blk.free hb2 3
  go_wp2_with fail
  refine (rate_any _ _).mono ?_
  rintro e w3 ⟨rfl, rfl⟩
  go_wp2
  go_end0
  exact ⟨rfl, Blk.set hb2 3 _, gb_set hg2 _ _⟩
end Go.Proofs.Ytagpcmhannmaeaa
