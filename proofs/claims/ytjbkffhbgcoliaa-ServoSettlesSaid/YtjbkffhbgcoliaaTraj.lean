/- A clock that is steered, in whole numbers: how far it is off comes near, and stays near. -/
namespace Go.Proofs.Ytjbkffhbgcoliaa.Tr
/-- One second of a clock that is steered: how far it is off, what has been gathered. -/
def next (r : Int) (p : Int × Int) : Int × Int :=
  (p.1 + r + (-((700 * p.1).tdiv 1000) - (p.2 + (300 * p.1).tdiv 1000)), p.2 + (300 * p.1).tdiv 1000)
def traj (r : Int) : Nat → Int × Int
  | 0 => (r, 0)
  | n + 1 => next r (traj r n)

theorem tdiv_near (x : Int) : x - 999 ≤ 1000 * x.tdiv 1000 ∧ 1000 * x.tdiv 1000 ≤ x + 999 ∧ (0 ≤ x → 1000 * x.tdiv 1000 ≤ x) ∧ (x ≤ 0 → x ≤ 1000 * x.tdiv 1000) := by
  rcases Int.le_total 0 x with h | h
  · rw [Int.tdiv_eq_ediv_of_nonneg h]
    omega
  · have e : x.tdiv 1000 = -((-x).tdiv 1000) := by rw [Int.neg_tdiv, Int.neg_neg]
    rw [e, Int.tdiv_eq_ediv_of_nonneg (by omega)]
    omega

/-- Both are within M. -/
def In (M r : Int) (p : Int × Int) : Prop := -M ≤ p.1 ∧ p.1 ≤ M ∧ -M ≤ p.2 - r ∧ p.2 - r ≤ M

theorem step_raw (r : Int) (p : Int × Int) : ∃ a b : Int, (next r p).1 = a - (p.2 - r) ∧ (next r p).2 - r = (p.2 - r) + b ∧ -1 ≤ a ∧ a ≤ 1 ∧ 3 * p.1 - 10 ≤ 10 * b ∧ 10 * b ≤ 3 * p.1 + 10 := by
  have h3 := tdiv_near (300 * p.1)
  have h7 := tdiv_near (700 * p.1)
  refine ⟨p.1 - (700 * p.1).tdiv 1000 - (300 * p.1).tdiv 1000, (300 * p.1).tdiv 1000, ?_, ?_, ?_, ?_, ?_, ?_⟩
  · simp only [next]; omega
  · simp only [next]; omega
  all_goals omega

theorem four {M r : Int} {p : Int × Int} (h : In M r p) (hM : 0 ≤ M) :
    In (2 * M + 10) r (next r p) ∧ In (2 * M + 10) r (next r (next r p)) ∧ In (2 * M + 10) r (next r (next r (next r p))) ∧
    ∀ L : Int, 61 * M + 900 ≤ 100 * L → In L r (next r (next r (next r (next r p)))) := by
  obtain ⟨h1, h2, h3, h4⟩ := h
  obtain ⟨a0, b0, e1, e2, a00, a01, b00, b01⟩ := step_raw r p
  obtain ⟨a1, b1, e3, e4, a10, a11, b10, b11⟩ := step_raw r (next r p)
  obtain ⟨a2, b2, e5, e6, a20, a21, b20, b21⟩ := step_raw r (next r (next r p))
  obtain ⟨a3, b3, e7, e8, a30, a31, b30, b31⟩ := step_raw r (next r (next r (next r p)))
  generalize next r (next r (next r (next r p))) = p4 at *
  generalize next r (next r (next r p)) = p3 at *
  generalize next r (next r p) = p2 at *
  generalize next r p = p1 at *
  refine ⟨?_, ?_, ?_, fun L hL => ?_⟩ <;> unfold In <;> refine ⟨?_, ?_, ?_, ?_⟩ <;> omega

def B : Nat → Int
  | 0 => 50000
  | k + 1 => 61 * B k / 100 + 10
theorem B_bd (k : Nat) : 0 ≤ B k ∧ B k ≤ 50000 := by
  induction k with
  | zero => simp [B]
  | succ k ih => simp only [B]; omega
theorem B_late (k : Nat) : B (20 + k) ≤ 40 := by
  induction k with
  | zero => decide
  | succ k ih => rw [← Nat.add_assoc]; simp only [B]; have := (B_bd (20 + k)).1; omega
theorem In.mono {M L r : Int} {p : Int × Int} (h : In M r p) (hl : M ≤ L) : In L r p := by
  unfold In at *
  omega
theorem traj_block (r : Int) (h0 : -50000 ≤ r) (h1 : r ≤ 50000) (k : Nat) : In (B k) r (traj r (4 * k)) := by
  induction k with
  | zero => simp only [traj, B, In]; omega
  | succ k ih =>
    have h := (four ih (B_bd k).1).2.2.2 (B (k + 1)) (by simp only [B]; omega)
    exact h
theorem traj_in (r : Int) (h0 : -50000 ≤ r) (h1 : r ≤ 50000) (n : Nat) : In (2 * B (n / 4) + 10) r (traj r n) := by
  have hb := traj_block r h0 h1 (n / 4)
  have hp := (B_bd (n / 4)).1
  have h4 := four hb hp
  have hn : n = 4 * (n / 4) + n % 4 := by omega
  have hm : n % 4 < 4 := Nat.mod_lt _ (by omega)
  generalize n / 4 = k at *
  generalize n % 4 = j at *
  subst hn
  match j, hm with
  | 0, _ => exact hb.mono (by omega)
  | 1, _ => exact h4.1
  | 2, _ => exact h4.2.1
  | 3, _ => exact h4.2.2.1
theorem traj_all (r : Int) (h0 : -50000 ≤ r) (h1 : r ≤ 50000) (n : Nat) : In 100010 r (traj r n) := (traj_in r h0 h1 n).mono (by have := (B_bd (n / 4)).2; omega)
theorem traj_late (r : Int) (h0 : -50000 ≤ r) (h1 : r ≤ 50000) (n : Nat) (hn : 80 ≤ n) : In 90 r (traj r n) := by
  refine (traj_in r h0 h1 n).mono ?_
  have h := B_late (n / 4 - 20)
  rw [show 20 + (n / 4 - 20) = n / 4 from by omega] at h
  omega
end Go.Proofs.Ytjbkffhbgcoliaa.Tr
