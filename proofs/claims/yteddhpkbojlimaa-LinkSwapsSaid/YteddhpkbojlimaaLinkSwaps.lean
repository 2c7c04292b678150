/- What the walk is told of the strings; the walk of LinkSwaps. -/
import Derived.Test.YteddhpkbojlimaaLk4
import Derived.ChangeOld
import Derived.Below
import Derived.Deep.Slices
import Derived.ChangeArms
namespace Go.Proofs.Yteddhpkbojlimaa
open Go.RowKit
attribute [local go_sem] max_two min_two max2_max min2_min

/-- A slice of strings came in. -/
def IsStrs (w : World) (a : Option Addr) (len : Nat) : Prop :=
  len ≤ maxLen ∧ ∀ i, i < len → ∃ (b off : Nat) (s : ByteArray), a = some ⟨b, off, none⟩ ∧ w.cell? ⟨b, off + i, none⟩ = some (.string s) ∧ s.size ≤ maxLen

theorem Try.cells9 : Try.prog.cellsOf 9 = 1 := by kernel_rfl
theorem strs_open {H : Type} {enc : TypeId × Value → H} {w : World} {base fuel : Nat} {spare : Nat → Bool} {held : Bool} {a : Option Addr} {len cap : Nat} {x : DataW H × List MemPlace}
    (h : DataW.trod enc Try.prog w base spare held fuel 33 [.slice a len cap] = some x) : IsStrs w a len := by
  rcases Go.Deep.open_slice Try.underlying33 h with ⟨hcs, _⟩ | ⟨ad, l, c, m, n, D, Pl, hcs, _, hl, hm, hmm, _, hi⟩
  · simp at hcs
    obtain ⟨rfl, rfl, rfl⟩ := hcs
    exact ⟨by unfold maxLen; omega, fun i hi => by omega⟩
  · simp at hcs
    obtain ⟨rfl, rfl, rfl⟩ := hcs
    have hlm : len ≤ m := by rw [hmm]; split <;> omega
    refine ⟨by omega, fun i hil => ?_⟩
    obtain ⟨cs', hc, ht⟩ := hi i (by omega)
    rw [Try.cells9] at hc
    obtain ⟨s, rfl, _, hs⟩ := DataW.trod_string Try.underlying9 ht
    obtain ⟨_, _, hat⟩ := World.cells?_some hc
    have c0 := hat 0 (by omega)
    rw [Go.Deep.add_add] at c0
    obtain ⟨cs0, hcz, _⟩ := hi 0 (by omega)
    rw [Try.cells9] at hcz
    obtain ⟨_, hl0, hat0⟩ := World.cells?_some hcz
    have c00 := hat0 0 (by omega)
    obtain ⟨z0, hz0⟩ : ∃ z, cs0[0]? = some z := ⟨_, List.getElem?_eq_getElem (by omega)⟩
    rw [hz0] at c00
    obtain ⟨b, off, spot_⟩ := ad
    have hspot : spot_ = none := by simpa [Addr.add] using World.cell?_spot c00
    subst hspot
    refine ⟨b, off, s, rfl, ?_, hs⟩
    rw [← Go.WideShapes.add_plain]
    simpa using c0

theorem swp_at {q : List (Int × ByteArray)} {k : Nat} {x y : Int × ByteArray} (hk : k + 1 < q.length) : (swp q k x y)[k]? = some y ∧ (swp q k x y)[k + 1]? = some x := by
  unfold swp
  constructor
  · rw [List.getElem?_set_ne (by omega), List.getElem?_set_self (by omega)]
  · rw [List.getElem?_set_self (by simpa using hk)]

set_option maxHeartbeats 4000000 in
set_option maxRecDepth 100000 in
theorem linkSwaps_walk (a0 : Option Addr) (len0 cap0 : Nat) (a1 : Int) (w : World) (w0 : IsStrs w a0 len0) :
    Calls Try.prog 4 #[.slice a0 len0 cap0, .int .i64 a1] w fun e w' => e = .returned (.bool true) ∧ Below w.heap.size w w' := by
  have l0 := w0.1
  unfold maxLen at l0
  have HS := hide w0.2
  clear w0
  go_enter Try.func4, Try.ntmps4
  go_wp2_with fail
  refine (new_any w.heap.size w).mono ?_
  rintro e w1 ⟨rfl, h1, hg1⟩
  go_wp2_with fail
  go_loopw [6, 7] (fun n k wr => ∃ (i : Nat) (q : List (Int × ByteArray)), k = .int .i64 i ∧ i ≤ len0 ∧ n = .int .i64 q.length ∧ q.length ≤ 20 ∧ LkAt wr w.heap.size w.heap.size q 0 ∧ w.grownBy wr none) (fun n k _ => len0 - (intOf k).toNat)
  case atStart => exact ⟨0, [], rfl, by omega, rfl, by simp, h1, hg1⟩
  case round =>
    clear h1 hg1
    obtain ⟨i, q, rfl, hi, rfl, hq, hL, hg⟩ := hrel
    obtain ⟨wo, rfl⟩ : ∃ wo : World, wo = wr := ⟨_, rfl⟩
    obtain ⟨n, hn⟩ : ∃ n, q.length = n := ⟨_, rfl⟩
    have HN := hide hn
    rw [hn] at hq ⊢
    clear hn
    by_cases hc : i < len0 ∧ n < 20
    · obtain ⟨hc1, hc2⟩ := hc
      have hc1' : (i : Int) < (len0 : Int) := by omega
      have hc2' : (n : Int) < 20 := by omega
      have ci0 : (0 : Int) ≤ (i : Int) := by omega
      obtain ⟨b, off, s, rfl, hcell, hsz⟩ := HS.out i hc1
      unfold maxLen at hsz
      have hcl := hg.cell hcell (by simp)
      clear hcell
      by_cases hs : s.size ≤ 100
      · have d1 : (s.size : Int) ≤ 100 := by omega
        go_wp2_with fail
        refine (put_room _ _ _ _ _ _ _ hL (by omega) (by rw [HN.out]; omega) hg.size).mono ?_
        rintro e w2 ⟨rfl, h2, hg2⟩
        replace hg2 := gb_young hg hg2 (Nat.le_refl _)
        have hl2 : (q ++ [((i : Int), s)]).length = n + 1 := by have := HN.out; simp [this]
        go_wp2_with fail
        exact ⟨⟨i + 1, q ++ [((i : Int), s)], by simp, by omega, by rw [hl2]; simp, by omega, h2, hg2⟩, by simp [intOf]; omega⟩
      · have d1 : ¬ (s.size : Int) ≤ 100 := by omega
        go_wp2_with fail
        exact ⟨⟨i + 1, q, by simp, by omega, by rw [HN.out], by have := HN.out; omega, hL, hg⟩, by simp [intOf]; omega⟩
    · by_cases hn0 : n = 0
      · subst hn0
        have hq0 : q = [] := List.eq_nil_of_length_eq_zero HN.out
        subst hq0
        by_cases hlt1 : (i : Int) < (len0 : Int)
        · exact absurd ⟨by omega, by omega⟩ hc
        · clear hc
          go_wp2_with fail
          refine (swap_out _ _ _ _ 0 _ hL (by simp)).mono ?_
          rintro e w2 ⟨rfl, rfl⟩
          go_wp2_with fail
          refine (awake_any _).mono ?_
          rintro e w3 ⟨rfl, hg2⟩
          go_wp2_with fail
          go_ret
          exact ⟨rfl, below_of_gb (gb_trans hg hg2)⟩
      · have hnp : (0 : Int) < (n : Int) := by omega
        have t0 : ((n : Int) == 0) = false := by rw [beq_eq_false_iff_ne]; omega
        have k0 := Int.emod_nonneg a1 (b := (n : Int)) (by omega)
        have k1 := Int.emod_lt_of_pos a1 hnp
        obtain ⟨k, hk⟩ : ∃ k : Nat, a1 % (n : Int) = k := ⟨(a1 % (n : Int)).toNat, by omega⟩
        have hkn : k < n := by omega
        have HK := hide hk
        clear k0 k1 hk
        obtain ⟨x, hx⟩ : ∃ x, q[k]? = some x := ⟨_, List.getElem?_eq_getElem (by rw [HN.out]; exact hkn)⟩
        have HX := hide hx
        clear hx
        by_cases hlast : k + 1 = n
        · have e1 : ¬ (k : Int) < (n : Int) - 1 := by omega
          have e2 : decide ((k : Int) < (n : Int) - 1) = false := by simpa using e1
          have HLAST := hide hlast
          clear hlast
          by_cases hlt1 : (i : Int) < (len0 : Int)
          all_goals
            go_wp2_with fail
            refine (place_any _ _ _ (by omega) (by omega)).mono ?_
            rintro e w2 ⟨rfl, rfl⟩
            rw [HK.out]
            go_wp2_with fail
            refine (look_in _ _ _ _ k x _ hL HX.out (by rw [HN.out]; omega)).mono ?_
            rintro e w3 ⟨rfl, m, rfl⟩
            have hL2 := hL.drewN m
            have hg2 := gb_drewN hg m
            generalize wo.drewN m = w4 at *
            go_wp2_with fail
            refine (look_out _ _ _ _ ((k : Int) + 1) _ hL2 (by rw [HN.out]; have := HLAST.out; omega)).mono ?_
            rintro e w3 ⟨rfl, rfl⟩
            go_wp2_with fail
            refine (swap_last _ _ _ _ k _ hL2 (by rw [HN.out]; exact HLAST.out) (by rw [HN.out]; omega)).mono ?_
            rintro e w3 ⟨rfl, rfl⟩
            go_wp2_with fail
            refine (awake_any _).mono ?_
            rintro e w3 ⟨rfl, hg3⟩
            go_wp2_with fail
            go_ret
            exact ⟨rfl, below_of_gb (gb_trans hg2 hg3)⟩
        · have hk1 : k + 1 < n := by omega
          have e1 : (k : Int) < (n : Int) - 1 := by omega
          have e2 : decide ((k : Int) < (n : Int) - 1) = true := by simpa using e1
          obtain ⟨y, hy⟩ : ∃ y, q[k + 1]? = some y := ⟨_, List.getElem?_eq_getElem (by rw [HN.out]; exact hk1)⟩
          have HY := hide hy
          have HS1 := hide (swp_at (q := q) (k := k) (x := x) (y := y) (by rw [HN.out]; exact hk1))
          have HL1 := hide (show (swp q k x y).length = n by rw [swp_length, HN.out])
          have HS2 := hide (swp_at (q := swp q k x y) (k := k) (x := y) (y := x) (by rw [HL1.out]; exact hk1))
          have HL2 := hide (show (swp (swp q k x y) k y x).length = n by rw [swp_length, HL1.out])
          clear hy hlast
          by_cases hlt1 : (i : Int) < (len0 : Int)
          all_goals
            go_wp2_with fail
            refine (place_any _ _ _ (by omega) (by omega)).mono ?_
            rintro e w2 ⟨rfl, rfl⟩
            rw [HK.out]
            go_wp2_with fail
            refine (look_in _ _ _ _ k x _ hL HX.out (by rw [HN.out]; omega)).mono ?_
            rintro e w3 ⟨rfl, m, rfl⟩
            have hL2 := hL.drewN m
            have hg2 := gb_drewN hg m
            clear hL hg
            generalize wo.drewN m = w4 at *
            go_wp2_with fail
            refine (look_in _ _ _ _ (k + 1) y _ hL2 HY.out (by rw [HN.out]; omega)).mono ?_
            rintro e w3 ⟨rfl, m2, rfl⟩
            have hL3 := hL2.drewN m2
            have hg3 := gb_drewN hg2 m2
            clear hL2 hg2
            generalize w4.drewN m2 = w5 at *
            go_wp2_with fail
            refine (swap_in _ _ _ _ k x y _ hL3 HX.out HY.out (by rw [HN.out]; omega)).mono ?_
            rintro e w6 ⟨rfl, hL4, g, hbg, hg4⟩
            replace hg4 := gb_young hg3 hg4 hbg
            clear hL3 hg3 hbg
            go_wp2_with fail
            refine (look_in _ _ _ _ k y _ hL4 HS1.out.1 (by rw [HL1.out]; omega)).mono ?_
            rintro e w3 ⟨rfl, m3, rfl⟩
            have hL5 := hL4.drewN m3
            have hg5 := gb_drewN hg4 m3
            clear hL4 hg4
            generalize w6.drewN m3 = w7 at *
            go_wp2_with fail
            refine (swap_in _ _ _ _ k y x _ hL5 HS1.out.1 HS1.out.2 (by rw [HL1.out]; omega)).mono ?_
            rintro e w8 ⟨rfl, hL6, g2, hbg2, hg6⟩
            replace hg6 := gb_young hg5 hg6 hbg2
            clear hL5 hg5 hbg2
            go_wp2_with fail
            refine (look_in _ _ _ _ k x _ hL6 HS2.out.1 (by rw [HL2.out]; omega)).mono ?_
            rintro e w3 ⟨rfl, m4, rfl⟩
            have hL7 := hL6.drewN m4
            have hg7 := gb_drewN hg6 m4
            clear hL6 hg6
            generalize w8.drewN m4 = w9 at *
            have hlen := len_any _ _ _ _ _ hL7
            rw [HL2.out] at hlen
            have HLEN := hide hlen
            clear hlen
            go_wp2_with fail
            refine HLEN.out.mono ?_
            rintro e w3 ⟨rfl, rfl⟩
            go_wp2_with fail
            refine (awake_any _).mono ?_
            rintro e w3 ⟨rfl, hg8⟩
            go_wp2_with fail
            go_ret
            exact ⟨rfl, below_of_gb (gb_trans hg7 hg8)⟩
end Go.Proofs.Yteddhpkbojlimaa
