/- What the walk is told of the script; the walk of OscPlays. -/
import Derived.Test.YtagpcmhannmaeaaORef
import Derived.Deep.Slices
import Derived.Deep.Fields
import Derived.ChangeSame
namespace Go.Proofs.Ytagpcmhannmaeaa
open Go.RowKit
attribute [local go_sem] max_two min_two max2_max min2_min

/-- A script came in: each operation is three whole numbers, one behind the other. -/
def IsOps (w : World) (a : Option Addr) (len : Nat) : Prop :=
  len ≤ maxLen ∧ ∀ i, i < len → ∃ (b off : Nat) (k t n : Int), a = some ⟨b, off, none⟩ ∧ w.cell? ⟨b, off + i * 3, none⟩ = some (.int .i64 k) ∧ w.cell? ⟨b, off + i * 3 + 1, none⟩ = some (.int .i64 t) ∧ w.cell? ⟨b, off + i * 3 + 2, none⟩ = some (.int .i64 n)

section
open Go.ChangeShapes Go.WideShapes Go.Deep
variable {H : Type} {enc : TypeId × Value → H}
theorem three_of {P : Program} {w : World} {base fuel : Nat} {spare : Nat → Bool} {held : Bool} {e k : TypeId} {f0 f1 f2 : Field} {cs : List Value} {x : DataW H × List MemPlace} (hs : P.underlying e = some (.struct #[f0, f1, f2]))
    (h0 : f0.type = k ∧ f0.offset = 0) (h1 : f1.type = k ∧ f1.offset = 1) (h2 : f2.type = k ∧ f2.offset = 2) (hk : P.underlying k = some (.int .i64)) (hC : P.cellsOf e = 3) (hK : P.cellsOf k = 1)
    (h : DataW.trod enc P w base spare held fuel e cs = some x) : ∃ p q r : Int, cs = [.int .i64 p, .int .i64 q, .int .i64 r] := by
  obtain ⟨xs, n, _, _, hlen, hxl, hg⟩ := DataW.trod_struct hs h
  rw [hC] at hlen
  match cs, hlen with
  | [c0, c1, c2], _ =>
    match xs, hxl with
    | [y0, y1, y2], _ =>
      have g0 := hg 0 f0 rfl
      have g1 := hg 1 f1 rfl
      have g2 := hg 2 f2 rfl
      rw [h0.1, h0.2, hK] at g0
      rw [h1.1, h1.2, hK] at g1
      rw [h2.1, h2.2, hK] at g2
      obtain ⟨p, e0, _⟩ := DataW.trod_int hk g0
      obtain ⟨q, e1, _⟩ := DataW.trod_int hk g1
      obtain ⟨r, e2, _⟩ := DataW.trod_int hk g2
      simp at e0 e1 e2
      exact ⟨p, q, r, by rw [e0, e1, e2]⟩
end

theorem Try.und35 : ∃ f0 f1 f2 : Field, Try.prog.underlying 35 = some (.struct #[f0, f1, f2]) ∧ (f0.type = 3 ∧ f0.offset = 0) ∧ (f1.type = 3 ∧ f1.offset = 1) ∧ (f2.type = 3 ∧ f2.offset = 2) :=
  ⟨_, _, _, Try.underlying35, ⟨rfl, rfl⟩, ⟨rfl, rfl⟩, ⟨rfl, rfl⟩⟩
theorem Try.cells35 : Try.prog.cellsOf 35 = 3 := by kernel_rfl
theorem Try.cells3 : Try.prog.cellsOf 3 = 1 := by kernel_rfl

theorem ops_open {H : Type} {enc : TypeId × Value → H} {w : World} {base fuel : Nat} {spare : Nat → Bool} {held : Bool} {a : Option Addr} {len cap : Nat} {x : DataW H × List MemPlace}
    (h : DataW.trod enc Try.prog w base spare held fuel 31 [.slice a len cap] = some x) : IsOps w a len := by
  obtain ⟨f0, f1, f2, hs, h0, h1, h2⟩ := Try.und35
  rcases Go.Deep.open_slice Try.underlying31 h with ⟨hcs, _⟩ | ⟨ad, l, c, m, n, D, Pl, hcs, _, hl, hm, hmm, _, hi⟩
  · simp at hcs
    obtain ⟨rfl, rfl, rfl⟩ := hcs
    exact ⟨by unfold maxLen; omega, fun i hi => by omega⟩
  · simp at hcs
    obtain ⟨rfl, rfl, rfl⟩ := hcs
    have hlm : len ≤ m := by rw [hmm]; split <;> omega
    refine ⟨by omega, fun i hil => ?_⟩
    obtain ⟨cs', hc, ht⟩ := hi i (by omega)
    rw [Try.cells35] at hc
    obtain ⟨p, q, r, rfl⟩ := three_of hs h0 h1 h2 Try.underlying3 Try.cells35 Try.cells3 ht
    obtain ⟨_, _, hat⟩ := World.cells?_some hc
    have c0 := hat 0 (by omega)
    have c1 := hat 1 (by omega)
    have c2 := hat 2 (by omega)
    rw [Go.Deep.add_add] at c0 c1 c2
    obtain ⟨cs0, hcz, _⟩ := hi 0 (by omega)
    rw [Try.cells35] at hcz
    obtain ⟨_, hl0, hat0⟩ := World.cells?_some hcz
    have c00 := hat0 0 (by omega)
    obtain ⟨z0, hz0⟩ : ∃ z, cs0[0]? = some z := ⟨_, List.getElem?_eq_getElem (by omega)⟩
    rw [hz0] at c00
    obtain ⟨b, off, spot_⟩ := ad
    have hspot : spot_ = none := by simpa [Addr.add] using World.cell?_spot c00
    subst hspot
    refine ⟨b, off, p, q, r, rfl, ?_, ?_, ?_⟩
    · rw [← Go.WideShapes.add_plain]; simpa using c0
    · rw [Nat.add_assoc, ← Go.WideShapes.add_plain]; simpa using c1
    · rw [Nat.add_assoc, ← Go.WideShapes.add_plain]; simpa using c2

theorem quiet_read {P : Program} {f : FuncId} {args : Array Value} {w : World} {n : Nat} {v : Value}
    (h : Calls P f args (w.drewN n) fun e w' => e = .returned v ∧ ∃ m, w' = (w.drewN n).drewN m) : Calls P f args (w.drewN n) fun e w'' => e = .returned v ∧ ∃ m, w'' = w.drewN m :=
  h.mono fun _ _ ⟨he, m, hm⟩ => ⟨he, n + m, by rw [hm]; simp [World.drewN, Nat.add_assoc]⟩

set_option maxHeartbeats 4000000 in
set_option maxRecDepth 100000 in
theorem oscPlays_walk (a0 a1 : Int) (a2 : Option Addr) (len2 cap2 : Nat) (w : World) (w2 : IsOps w a2 len2) :
    Calls Try.prog 6 #[.int .i64 a0, .int .i64 a1, .slice a2 len2 cap2] w fun e w' => e = .returned (.bool true) ∧ Below w.heap.size w w' := by
  have l2 := w2.1
  unfold maxLen at l2
  have HOPS := hide w2.2
  clear w2
  go_enter Try.func6, Try.ntmps6
  go_wp2_with fail
  refine (new_any _ _ _).mono ?_
  rintro e wa ⟨rfl, hf, hg⟩
  go_wp2_with fail
  refine (rnew_any _ _ _).mono ?_
  rintro e wb ⟨rfl, hr, hg2⟩
  have hf2 := Blk.other hf hg2 (by simp)
  have hlt := Blk.lt hf
  have hgb := gb_trans hg hg2
  have hok := hide (new_ok a0 a1)
  generalize Oc.new a0 a1 = o at *
  clear hf hg hg2
  generalize hB : wa.heap.size = b at *
  clear hB
  go_wp2_with fail
  go_loopw [9] (fun i wr => ∃ (j : Nat) (o : Oc), i = .int .i64 j ∧ j ≤ len2 ∧ j ≤ 80 ∧ Hid o.Ok ∧ OsAt 40 wr w.heap.size o ∧ OsAt 37 wr b o ∧ w.grownBy wr none) (fun i _ => 80 - (intOf i).toNat)
  case atStart => exact ⟨0, o, rfl, by omega, by omega, hok, hf2, hr, hgb⟩
  case round =>
    clear hok hf2 hr hgb o
    obtain ⟨j, o, rfl, hj, hj80, hok, hF, hR, hg3⟩ := hrel
    obtain ⟨wo, rfl⟩ : ∃ wo : World, wo = wr := ⟨_, rfl⟩
    by_cases hjn : j < len2 ∧ j < 80
    · have hjn' : (j : Int) < len2 := by omega
      have hjn2 : (j : Int) < 80 := by omega
      obtain ⟨bz, oz, k, t, n, rfl, hk, ht, hn⟩ := HOPS.out j hjn.1
      have hk2 := hg3.cell hk (by simp)
      have ht2 := hg3.cell ht (by simp)
      have hn2 := hg3.cell hn (by simp)
      clear hk ht hn
      go_wp2_with fail
      refine (place_any _ _ _ (by omega) (by omega)).mono ?_
      rintro e wx ⟨rfl, rfl⟩
      have hC : Blk (wo.alloc (.cells #[.int .i64 k, .int .i64 t, .int .i64 n] 35)) wo.heap.size 35 #[.int .i64 k, .int .i64 t, .int .i64 n] := Blk.new _ _ _
      have hF1 := Blk.alloc hF (.cells #[.int .i64 k, .int .i64 t, .int .i64 n] 35)
      have hR1 := Blk.alloc hR (.cells #[.int .i64 k, .int .i64 t, .int .i64 n] 35)
      have hg4 := gb_alloc hg3 (.cells #[.int .i64 k, .int .i64 t, .int .i64 n] 35)
      have hbl := Blk.lt hR
      have hct := Blk.cell hC 1
      have hcn := Blk.cell hC 2
      clear hF hR hg3 hk2 ht2 hn2
      generalize (wo.alloc (.cells #[.int .i64 k, .int .i64 t, .int .i64 n] 35)) = W at *
      have hct : W.cell? ⟨wo.heap.size, 1, none⟩ = some (.int .i64 t) := hct
      have hcn : W.cell? ⟨wo.heap.size, 2, none⟩ = some (.int .i64 n) := hcn
      clear hC
      generalize wo.heap.size = c at *
      obtain ⟨r, hr⟩ : ∃ r, k % 5 = r := ⟨_, rfl⟩
      rw [hr]
      clear hr
      by_cases h2 : r = 2
      · subst h2
        go_wp2_with fail
        refine (setRate_any _ _ _ _ _ hF1 hok.out).mono ?_
        rintro e w3 ⟨rfl, hF2, hg5⟩
        have hR2 := Blk.other hR1 hg5 (by simp; omega)
        have hg6 := gb_young hg4 hg5 (Nat.le_refl _)
        have hct3 := hg5.cell hct (by simp; omega)
        have hcn3 := hg5.cell hcn (by simp; omega)
        clear hF1 hR1 hg4 hg5 hct hcn
        go_wp2_with fail
        refine (rsetRate_any _ _ _ _ _ hR2 hok.out).mono ?_
        rintro e w4 ⟨rfl, hR3, hg7⟩
        have hF3 := Blk.other hF2 hg7 (by simp; omega)
        have hg8 := gb_young hg6 hg7 (by omega)
        have hok2 := hide (hok.out.setRate t n)
        have hrc : w4.cell? ⟨b, 2, none⟩ = some (.int .i64 (o.setRate t n).rate) := Blk.cell hR3 2
        have hfc : w4.cell? ⟨b, 3, none⟩ = some (.int .i64 (o.setRate t n).freq) := Blk.cell hR3 3
        generalize o.setRate t n = o2 at *
        clear hF2 hR2 hg6 hg7 hct3 hcn3
        go_wp2_with fail
        go_quiet ((first | (go_at_call 13; exact quiet_left (getRate_any _ _ _ (Blk.drewN hF3 _))) | (go_at_call 14; exact quiet_left (getFreq_any _ _ _ (Blk.drewN hF3 _)))))
        go_wp2_with fail
        exact ⟨⟨j + 1, _, by simp, by omega, by omega, hok2, Blk.drewN hF3 _, Blk.drewN hR3 _, gb_drewN hg8 _⟩, by simp [intOf]; omega⟩
      by_cases h3 : r = 3
      · subst h3
        clear h2
        go_wp2_with fail
        refine (setFreq_any _ _ _ _ _ hF1 hok.out).mono ?_
        rintro e w3 ⟨rfl, hF2, hg5⟩
        have hR2 := Blk.other hR1 hg5 (by simp; omega)
        have hg6 := gb_young hg4 hg5 (Nat.le_refl _)
        have hct3 := hg5.cell hct (by simp; omega)
        have hcn3 := hg5.cell hcn (by simp; omega)
        clear hF1 hR1 hg4 hg5 hct hcn
        go_wp2_with fail
        refine (rsetFreq_any _ _ _ _ _ hR2 hok.out).mono ?_
        rintro e w4 ⟨rfl, hR3, hg7⟩
        have hF3 := Blk.other hF2 hg7 (by simp; omega)
        have hg8 := gb_young hg6 hg7 (by omega)
        have hok2 := hide (hok.out.setFreq t n)
        have hrc : w4.cell? ⟨b, 2, none⟩ = some (.int .i64 (o.setFreq t n).rate) := Blk.cell hR3 2
        have hfc : w4.cell? ⟨b, 3, none⟩ = some (.int .i64 (o.setFreq t n).freq) := Blk.cell hR3 3
        generalize o.setFreq t n = o2 at *
        clear hF2 hR2 hg6 hg7 hct3 hcn3
        go_wp2_with fail
        go_quiet ((first | (go_at_call 13; exact quiet_left (getRate_any _ _ _ (Blk.drewN hF3 _))) | (go_at_call 14; exact quiet_left (getFreq_any _ _ _ (Blk.drewN hF3 _)))))
        go_wp2_with fail
        exact ⟨⟨j + 1, _, by simp, by omega, by omega, hok2, Blk.drewN hF3 _, Blk.drewN hR3 _, gb_drewN hg8 _⟩, by simp [intOf]; omega⟩
      by_cases h4 : r = 4
      · subst h4
        clear h2 h3
        go_wp2_with fail
        refine (step_any _ _ _ _ _ hF1 hok.out).mono ?_
        rintro e w3 ⟨rfl, hF2, hg5⟩
        have hR2 := Blk.other hR1 hg5 (by simp; omega)
        have hg6 := gb_young hg4 hg5 (Nat.le_refl _)
        have hct3 := hg5.cell hct (by simp; omega)
        have hcn3 := hg5.cell hcn (by simp; omega)
        clear hF1 hR1 hg4 hg5 hct hcn
        go_wp2_with fail
        refine (rstep_any _ _ _ _ _ hR2 hok.out).mono ?_
        rintro e w4 ⟨rfl, hR3, hg7⟩
        have hF3 := Blk.other hF2 hg7 (by simp; omega)
        have hg8 := gb_young hg6 hg7 (by omega)
        have hok2 := hide (hok.out.step t n)
        have hrc : w4.cell? ⟨b, 2, none⟩ = some (.int .i64 (o.step t n).rate) := Blk.cell hR3 2
        have hfc : w4.cell? ⟨b, 3, none⟩ = some (.int .i64 (o.step t n).freq) := Blk.cell hR3 3
        generalize o.step t n = o2 at *
        clear hF2 hR2 hg6 hg7 hct3 hcn3
        go_wp2_with fail
        go_quiet ((first | (go_at_call 13; exact quiet_left (getRate_any _ _ _ (Blk.drewN hF3 _))) | (go_at_call 14; exact quiet_left (getFreq_any _ _ _ (Blk.drewN hF3 _)))))
        go_wp2_with fail
        exact ⟨⟨j + 1, _, by simp, by omega, by omega, hok2, Blk.drewN hF3 _, Blk.drewN hR3 _, gb_drewN hg8 _⟩, by simp [intOf]; omega⟩
      · have t2 : (r == 2) = false := by rw [beq_eq_false_iff_ne]; exact h2
        have t3 : (r == 3) = false := by rw [beq_eq_false_iff_ne]; exact h3
        have t4 : (r == 4) = false := by rw [beq_eq_false_iff_ne]; exact h4
        clear h2 h3 h4
        go_wp2_with fail
        go_quiet ((first | (go_at_call 10; exact quiet_read (read_any _ _ _ _ (Blk.drewN hF1 _) hok.out)) | (go_at_call 20; exact quiet_read (rread_any _ _ _ _ (Blk.drewN hR1 _) hok.out))))
        have hF3 := Blk.drewN hF1 nq
        have hR3 := Blk.drewN hR1 nq
        have hg8 := gb_drewN hg4 nq
        have hok2 := hok
        have hrc : (W.drewN nq).cell? ⟨b, 2, none⟩ = some (.int .i64 o.rate) := Blk.cell hR3 2
        have hfc : (W.drewN nq).cell? ⟨b, 3, none⟩ = some (.int .i64 o.freq) := Blk.cell hR3 3
        clear hF1 hR1 hg4 hct hcn
        generalize W.drewN nq = w4 at *
        go_wp2_with fail
        go_quiet ((first | (go_at_call 13; exact quiet_left (getRate_any _ _ _ (Blk.drewN hF3 _))) | (go_at_call 14; exact quiet_left (getFreq_any _ _ _ (Blk.drewN hF3 _)))))
        go_wp2_with fail
        exact ⟨⟨j + 1, _, by simp, by omega, by omega, hok2, Blk.drewN hF3 _, Blk.drewN hR3 _, gb_drewN hg8 _⟩, by simp [intOf]; omega⟩
    · have aw := (awake_any wo)
      by_cases hlt1 : (j : Int) < len2
      all_goals
        go_wp2_with fail
        refine aw.mono ?_
        rintro e w4 ⟨rfl, hg4⟩
        go_wp2_with fail
        go_ret
        exact ⟨rfl, below_of_gb (gb_trans hg3 hg4)⟩
end Go.Proofs.Ytagpcmhannmaeaa
