/- The statements' 'awake'. -/
import Derived.Test.YtekgkflabcbobaaPtNext
import Derived.Test.YtekgkflabcbobaaPtDec
namespace Go.Proofs.Ytekgkflabcbobaa
open Go.RowKit

set_option maxRecDepth 100000 in
theorem awake_any (w : World) : Calls Try.prog 8 #[] w fun e w' => e = .returned (.bool true) ∧ w.grownBy w' none := by
  go_enter Try.func8, Try.ntmps8
  go_wp2_with fail
  refine (next_any _ _ _ _).mono ?_
  rintro e w1 ⟨rfl, rfl⟩
  rw [show nextI 4 4 false = 6 from rfl]
  go_wp2_with fail
  refine (name_any _ _).mono ?_
  rintro e w1 ⟨rfl, hg1⟩
  rw [show nameOf 9 = ⟨#[115, 108, 97, 118, 101]⟩ from rfl]
  go_wp2_with fail
  refine (alive_any _ _).mono ?_
  rintro e w2 ⟨rfl, rfl⟩
  rw [show aliveB 7 = true from rfl]
  go_wp2
  go_ret
  exact ⟨rfl, hg1⟩
end Go.Proofs.Ytekgkflabcbobaa
