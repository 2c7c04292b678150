/- The document's oscillator: contracts, by the same plain machine. -/
import Derived.Test.YtagpcmhannmaeaaStep
namespace Go.Proofs.Ytagpcmhannmaeaa
open Go.RowKit
attribute [local go_sem] max_two min_two max2_max min2_min

theorem mm_stamp (v : Int) : min (max v 0) 4000000000000000 = stampI v := by unfold stampI cut3; omega
theorem mm_rate (v : Int) : min (max v (-512000)) 512000 = rateI v := by unfold rateI cut3; omega

theorem rcut_any (v : Int) (w : World) : Calls Try.prog 26 #[.int .i64 v] w fun e w' => e = .returned (.int .i64 (stampI v)) ∧ w = w' := by
  have H := hide (mm_stamp v)
  go_enter Try.func26, Try.ntmps26
  go_wp2
  go_ret
  exact ⟨ret_int H.out, rfl⟩
theorem rfreq_any (v : Int) (w : World) : Calls Try.prog 27 #[.int .i64 v] w fun e w' => e = .returned (.int .i64 (rateI v)) ∧ w = w' := by
  have H := hide (mm_rate v)
  go_enter Try.func27, Try.ntmps27
  go_wp2
  go_ret
  exact ⟨ret_int H.out, rfl⟩
theorem rnew_any (l r : Int) (w : World) :
    Calls Try.prog 15 #[.int .i64 l, .int .i64 r] w fun e w' => e = .returned (.pointer (some ⟨w.heap.size, 0, none⟩)) ∧ OsAt 37 w' w.heap.size (Oc.new l r) ∧ w.grownBy w' none := by
  go_enter Try.func15, Try.ntmps15
  go_wp2_with fail
  refine (rcut_any _ _).mono ?_
  rintro e w' ⟨rfl, rfl⟩
  go_wp2_with fail
  refine (rfreq_any _ _).mono ?_
  rintro e w' ⟨rfl, rfl⟩
  go_wp2
  go_ret
  exact ⟨rfl, Blk.new _ _ _, gb_alloc (gb_refl _ _) _⟩
theorem mm_time (o : Oc) (hk : o.Ok) (t : Int) : min (max t o.at_) 4000000000000000 = o.time t := by
  have := hk.at_
  unfold Oc.time cut3
  omega
theorem rat_any (b : Nat) (o : Oc) (t : Int) (w : World) (hb : OsAt 37 w b o) (hk : o.Ok) :
    Calls Try.prog 29 #[.pointer (some ⟨b, 0, none⟩), .int .i64 t] w fun e w' => e = .returned (.int .i64 (o.time t)) ∧ w = w' := by
  have H := hide (mm_time o hk t)
  have hc : w.cell? ⟨b, 0, none⟩ = some (.int .i64 o.at_) := Blk.cell hb 0
  go_enter Try.func29, Try.ntmps29
  go_wp2
  go_ret
  exact ⟨ret_int H.out, rfl⟩

theorem rem_of (p : Int) : (0 ≤ p.tmod 1000000000 → p / 1000000000 = p.tdiv 1000000000) ∧ (p.tmod 1000000000 < 0 → p / 1000000000 = p.tdiv 1000000000 - 1) := by
  have h := floor_of p
  have h1 := Int.tmod_add_mul_tdiv p 1000000000
  constructor
  · intro h0
    exact h.2.2.1 (by omega)
  · intro h0
    exact h.2.2.2 (by omega)

set_option maxRecDepth 100000 in
theorem rread_any (b : Nat) (o : Oc) (t : Int) (w : World) (hb : OsAt 37 w b o) (hk : o.Ok) :
    Calls Try.prog 20 #[.pointer (some ⟨b, 0, none⟩), .int .i64 t] w fun e w' => e = .returned (.int .i64 (o.read t)) ∧ ∃ n, w' = w.drewN n := by
  have hc0 : w.cell? ⟨b, 0, none⟩ = some (.int .i64 o.at_) := Blk.cell hb 0
  have hc1 : w.cell? ⟨b, 1, none⟩ = some (.int .i64 o.loc) := Blk.cell hb 1
  have hc2 : w.cell? ⟨b, 2, none⟩ = some (.int .i64 o.rate) := Blk.cell hb 2
  have hc3 : w.cell? ⟨b, 3, none⟩ = some (.int .i64 o.freq) := Blk.cell hb 3
  have HK := hide hk
  obtain ⟨⟨at0, at1⟩, ⟨lo0, lo1⟩, ⟨ra0, ra1⟩, ⟨fr0, fr1⟩⟩ := hk
  have ht := time_bd HK.out t
  have hRead : o.read t = stampI (o.loc + o.ago t + gain (o.ago t) (o.rate + o.freq)) := rfl
  have hAgo : o.time t - o.at_ = o.ago t := rfl
  have hd0 : 0 ≤ o.ago t := by rw [← hAgo]; omega
  have hd1 : o.ago t ≤ 4000000000000000 := by rw [← hAgo]; omega
  rw [hRead]
  have w1_ : IntKind.i64.wrap (o.time t - o.at_) = o.ago t := by rw [hAgo]; exact IntWalk.i64_in _ (by omega)
  have w2_ : IntKind.i64.wrap (o.rate + o.freq) = o.rate + o.freq := IntWalk.i64_in _ (by omega)
  have hr0 : -1024000 ≤ o.rate + o.freq := by omega
  have hr1 : o.rate + o.freq ≤ 1024000 := by omega
  generalize o.ago t = d at *
  generalize hRr : o.rate + o.freq = r at *
  have HR := hide hRr
  clear hRr hAgo hRead ht
  have hm0 : 0 ≤ d % 1000000000 := by omega
  have hm1 : d % 1000000000 ≤ 999999999 := by omega
  have hq0 : 0 ≤ d / 1000000000 := by omega
  have hq1 : d / 1000000000 ≤ 4000000 := by omega
  have hP := mul_bd hm0 hm1 hr0 hr1 (by omega)
  have hQ := mul_bd hq0 hq1 hr0 hr1 (by omega)
  have hF := floor_of (d % 1000000000 * r)
  have hRem := hide (rem_of (d % 1000000000 * r))
  have hG : gain d r = d / 1000000000 * r + d % 1000000000 * r / 1000000000 := rfl
  rw [hG]
  clear hG
  go_enter Try.func20, Try.ntmps20
  go_wp2_with fail
  go_quiet ((go_at_call 29; exact quiet_left (rat_any _ _ _ _ (Blk.drewN hb _) HK.out)))
  clear w1_
  have hRr := HR.out
  go_wp2_with fail
  go_quiet (fail)
  clear w2_ hRr
  go_wp2_with fail
  · have hlt : (d % 1000000000 * r).tmod 1000000000 < 0 := by assumption
    have E1 := hide (hRem.out.2 hlt)
    refine (rcut_any _ _).mono ?_
    rintro e w' ⟨rfl, rfl⟩
    go_wp2
    go_ret
    exact ⟨ret_int (by rw [E1.out, ← Int.add_assoc]), _, rfl⟩
  · have hge : (0 : Int) ≤ (d % 1000000000 * r).tmod 1000000000 := by
      first
        | assumption
        | exact Int.not_lt.1 (by assumption)
    have E1 := hide (hRem.out.1 hge)
    refine (rcut_any _ _).mono ?_
    rintro e w' ⟨rfl, rfl⟩
    go_wp2
    go_ret
    exact ⟨ret_int (by rw [E1.out, ← Int.add_assoc]), _, rfl⟩

theorem rmove_any (b : Nat) (o : Oc) (t : Int) (w : World) (hb : OsAt 37 w b o) (hk : o.Ok) :
    Calls Try.prog 28 #[.pointer (some ⟨b, 0, none⟩), .int .i64 t] w fun e w' => e = .returned (.tuple #[]) ∧ OsAt 37 w' b (o.anchor t) ∧ w.grownBy w' (some b) := by
  have HK := hide hk
  clear hk
  go_enter Try.func28, Try.ntmps28
  go_wp2_with fail
  refine (rread_any _ _ _ _ hb HK.out).mono ?_
  rintro e w' ⟨rfl, n, rfl⟩
  have hb1 : OsAt 37 (w.drewN n) b o := Blk.drewN hb n
  have hg1 : w.grownBy (w.drewN n) (some b) := gb_drewN (gb_refl _ _) n
  generalize w.drewN n = w1 at *
  go_wp2_with fail
  refine (rat_any _ _ _ _ hb1 HK.out).mono ?_
  rintro e w3 ⟨rfl, rfl⟩
  have hc0 : w1.cell? ⟨b, 0, none⟩ = some (.int .i64 o.at_) := Blk.cell hb1 0
  have hf0 : w1.frozen? ⟨b, 0, none⟩ = false := Blk.free hb1 0
  have hb2 : OsAt 37 (w1.setCell ⟨b, 0, none⟩ (.int .i64 (o.time t))) b { o with at_ := o.time t } := Blk.set hb1 0 _
  have hg2 := gb_set hg1 0 (.int .i64 (o.time t))
  have hc1 : (w1.setCell ⟨b, 0, none⟩ (.int .i64 (o.time t))).cell? ⟨b, 1, none⟩ = some (.int .i64 o.loc) := Blk.cell hb2 1
  have hf1 : (w1.setCell ⟨b, 0, none⟩ (.int .i64 (o.time t))).frozen? ⟨b, 1, none⟩ = false := Blk.free hb2 1
  go_wp2
  go_end0
  exact ⟨rfl, Blk.set hb2 1 _, gb_set hg2 _ _⟩
theorem rsetRate_any (b : Nat) (o : Oc) (t r : Int) (w : World) (hb : OsAt 37 w b o) (hk : o.Ok) :
    Calls Try.prog 17 #[.pointer (some ⟨b, 0, none⟩), .int .i64 t, .int .i64 r] w fun e w' => e = .returned (.tuple #[]) ∧ OsAt 37 w' b (o.setRate t r) ∧ w.grownBy w' (some b) := by
  go_enter Try.func17, Try.ntmps17
  go_wp2_with fail
  refine (rmove_any _ _ _ _ hb hk).mono ?_
  rintro e w2 ⟨rfl, hb2, hg2⟩
  have hc0 : w2.cell? ⟨b, 2, none⟩ = some (.int .i64 o.rate) := Blk.cell hb2 2
  have hf0 : w2.frozen? ⟨b, 2, none⟩ = false := Blk.free hb2 2
  go_wp2_with fail
  refine (rfreq_any _ _).mono ?_
  rintro e w3 ⟨rfl, rfl⟩
  go_wp2
  go_end0
  exact ⟨rfl, Blk.set hb2 2 _, gb_set hg2 _ _⟩
theorem rsetFreq_any (b : Nat) (o : Oc) (t r : Int) (w : World) (hb : OsAt 37 w b o) (hk : o.Ok) :
    Calls Try.prog 18 #[.pointer (some ⟨b, 0, none⟩), .int .i64 t, .int .i64 r] w fun e w' => e = .returned (.tuple #[]) ∧ OsAt 37 w' b (o.setFreq t r) ∧ w.grownBy w' (some b) := by
  go_enter Try.func18, Try.ntmps18
  go_wp2_with fail
  refine (rmove_any _ _ _ _ hb hk).mono ?_
  rintro e w2 ⟨rfl, hb2, hg2⟩
  have hc0 : w2.cell? ⟨b, 3, none⟩ = some (.int .i64 o.freq) := Blk.cell hb2 3
  have hf0 : w2.frozen? ⟨b, 3, none⟩ = false := Blk.free hb2 3
  go_wp2_with fail
  refine (rfreq_any _ _).mono ?_
  rintro e w3 ⟨rfl, rfl⟩
  go_wp2
  go_end0
  exact ⟨rfl, Blk.set hb2 3 _, gb_set hg2 _ _⟩
theorem mm_by (d : Int) : min (max d (-4000000000000000)) 4000000000000000 = cut3 d (-4000000000000000) 4000000000000000 := by unfold cut3; omega
set_option maxRecDepth 100000 in
theorem rstep_any (b : Nat) (o : Oc) (t d : Int) (w : World) (hb : OsAt 37 w b o) (hk : o.Ok) :
    Calls Try.prog 19 #[.pointer (some ⟨b, 0, none⟩), .int .i64 t, .int .i64 d] w fun e w' => e = .returned (.tuple #[]) ∧ OsAt 37 w' b (o.step t d) ∧ w.grownBy w' (some b) := by
  have hr := read_bd o t
  have hc : -4000000000000000 ≤ min (max d (-4000000000000000)) 4000000000000000 ∧ min (max d (-4000000000000000)) 4000000000000000 ≤ 4000000000000000 := by omega
  have H := hide (mm_by d)
  go_enter Try.func19, Try.ntmps19
  go_wp2_with fail
  refine (rmove_any _ _ _ _ hb hk).mono ?_
  rintro e w2 ⟨rfl, hb2, hg2⟩
  have hc1 : w2.cell? ⟨b, 1, none⟩ = some (.int .i64 (o.read t)) := Blk.cell hb2 1
  have hf1 : w2.frozen? ⟨b, 1, none⟩ = false := Blk.free hb2 1
  go_wp2_with fail
  refine (rcut_any _ _).mono ?_
  rintro e w3 ⟨rfl, rfl⟩
  go_wp2_with fail
  go_end0
  rw [H.out]
  exact ⟨rfl, Blk.set hb2 1 _, gb_set hg2 1 _⟩
end Go.Proofs.Ytagpcmhannmaeaa
