/- Step's contract; the statements' 'awake'. -/
import Derived.Test.YtagpcmhannmaeaaOs
namespace Go.Proofs.Ytagpcmhannmaeaa
open Go.RowKit
attribute [local go_sem] max_two min_two max2_max min2_min

set_option maxRecDepth 100000 in
theorem step_any (b : Nat) (o : Oc) (t d : Int) (w : World) (hb : OsAt 40 w b o) (hk : o.Ok) :
    Calls Try.prog 9 #[.pointer (some ⟨b, 0, none⟩), .int .i64 t, .int .i64 d] w fun e w' => e = .returned (.tuple #[]) ∧ OsAt 40 w' b (o.step t d) ∧ w.grownBy w' (some b) := by
  have hr := read_bd o t
  have hc : -4000000000000000 ≤ cut3 d (-4000000000000000) 4000000000000000 ∧ cut3 d (-4000000000000000) 4000000000000000 ≤ 4000000000000000 := by unfold cut3; omega
  go_enter Try.func9, Try.ntmps9
  go_wp2_with fail
  refine (anchor_any _ _ _ _ hb hk).mono ?_
  rintro e w2 ⟨rfl, hb2, hg2⟩
  have hc1 : w2.cell? ⟨b, 1, none⟩ = some (.int .i64 (o.read t)) := Blk.cell hb2 1
  have hf1 : w2.frozen? ⟨b, 1, none⟩ = false := Blk.free hb2 1
  have w1_ : IntKind.i64.wrap (o.read t + cut3 d (-4000000000000000) 4000000000000000) = o.read t + cut3 d (-4000000000000000) 4000000000000000 := IntWalk.i64_in _ (by omega)
  go_wp2_with fail
  go_region_with (first | (go_at_call 24; refine (cut_any _ _ _ _).mono ?_; rintro e w3 ⟨rfl, rfl⟩) | (go_at_call 21; refine (stamp_any _ _).mono ?_; rintro e w3 ⟨rfl, rfl⟩))
  all_goals
    go_wp2_with fail
    go_end0
    exact ⟨rfl, Blk.set (Blk.drew hb2) 1 _, gb_set (gb_drew hg2) 1 _⟩

theorem awake_any (w : World) : Calls Try.prog 11 #[] w fun e w' => e = .returned (.bool true) ∧ w.grownBy w' none := by
  go_enter Try.func11, Try.ntmps11
  go_wp2_with fail
  refine (new_any _ _ _).mono ?_
  rintro e w1 ⟨rfl, hb1, hg1⟩
  rw [show Oc.new 0 1000 = ⟨0, 0, 1000, 0⟩ from rfl] at hb1
  go_wp2_with fail
  refine (read_any _ _ _ _ hb1 ⟨by decide, by decide, by decide, by decide⟩).mono ?_
  rintro e w2 ⟨rfl, n, rfl⟩
  have hb2 := Blk.drewN hb1 n
  have hg2 := gb_drewN hg1 n
  generalize w1.drewN n = w2 at *
  rw [show (⟨0, 0, 1000, 0⟩ : Oc).read 1000000000 = 1000001000 from by decide]
  go_wp2_with fail
  refine (getRate_any _ ⟨0, 0, 1000, 0⟩ _ hb2).mono ?_
  rintro e w3 ⟨rfl, rfl⟩
  go_wp2_with fail
  refine (getFreq_any _ ⟨0, 0, 1000, 0⟩ _ hb2).mono ?_
  rintro e w3 ⟨rfl, rfl⟩
  go_wp2
  go_ret
  exact ⟨rfl, hg2⟩
end Go.Proofs.Ytagpcmhannmaeaa
