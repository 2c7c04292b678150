/- Sample, where the clock is steered: the words. -/
import Derived.Test.YtjbkffhbgcoliaaSet
namespace Go.Proofs.Ytjbkffhbgcoliaa
open Go.RowKit
attribute [local go_sem] max_two min_two max2_max min2_min

/-- What is gathered and what it is steered by, ahead of the bound. -/
def Sv.d (s : Sv) (o : Int) : Int := cutI (s.drift + (s.ki * cutI o 512000000).tdiv 1000) 512000
def Sv.f (s : Sv) (o : Int) : Int := -((s.kp * cutI o 512000000).tdiv 1000) - s.d o
def nearOf (n o : Int) : Int := if o > 100 ∨ o < -100 then 0 else n + 1
def stOf (st n o : Int) : Int := if 3 ≤ n then 2 else if o > 1000 ∨ o < -1000 then 1 else st
def Sv.steer (s : Sv) (o : Int) : Sv :=
  { s with freq := cutI (s.f o) 512000, drift := if s.f o > 512000 ∨ s.f o < -512000 then s.drift else s.d o, near := nearOf s.near o, st := stOf s.st (nearOf s.near o) o }

structure Sv.Ok (s : Sv) (K : Int) : Prop where
  kp : 0 ≤ s.kp ∧ s.kp ≤ 2000
  ki : 0 ≤ s.ki ∧ s.ki ≤ 2000
  step : 0 ≤ s.step ∧ s.step ≤ 1000000000
  freq : -512000 ≤ s.freq ∧ s.freq ≤ 512000
  drift : -512000 ≤ s.drift ∧ s.drift ≤ 512000
  near : 0 ≤ s.near ∧ s.near ≤ K
  st : 0 ≤ s.st ∧ s.st ≤ 2

theorem mul_bd {a x A X : Int} (ha0 : 0 ≤ a) (ha1 : a ≤ A) (hx0 : -X ≤ x) (hx1 : x ≤ X) (hX : 0 ≤ X) : -(A * X) ≤ a * x ∧ a * x ≤ A * X := by
  have h1 : a * x ≤ a * X := Int.mul_le_mul_of_nonneg_left hx1 ha0
  have h2 : a * X ≤ A * X := Int.mul_le_mul_of_nonneg_right ha1 hX
  have h3 : a * (-X) ≤ a * x := Int.mul_le_mul_of_nonneg_left hx0 ha0
  rw [Int.mul_neg] at h3
  constructor <;> omega
theorem tdiv_bd {x B : Int} (h0 : -(B * 1000) ≤ x) (h1 : x ≤ B * 1000) : -B ≤ x.tdiv 1000 ∧ x.tdiv 1000 ≤ B := by
  rcases Int.le_total 0 x with h | h
  · rw [Int.tdiv_eq_ediv_of_nonneg h]
    omega
  · have e : x.tdiv 1000 = -((-x).tdiv 1000) := by rw [Int.neg_tdiv, Int.neg_neg]
    rw [e, Int.tdiv_eq_ediv_of_nonneg (by omega)]
    omega

end Go.Proofs.Ytjbkffhbgcoliaa
