/- The states of a port, as plain functions; contracts of packages port and carillonref21. -/
import Derived.Test.YtekgkflabcbobaaObj
namespace Go.Proofs.Ytekgkflabcbobaa
open Go.RowKit

theorem emod_of_tmod {v n : Int} (hn : 0 < n) : (v.tmod n < 0 → v.tmod n + n = v % n) ∧ (0 ≤ v.tmod n → v.tmod n = v % n) := by
  have h1 := Int.tmod_add_mul_tdiv v n
  have h2 := Int.emod_add_mul_ediv v n
  have h3 := Int.emod_nonneg v (b := n) (by omega)
  have h4 := Int.emod_lt_of_pos v hn
  constructor
  · intro h
    rw [Int.tmod_eq_emod] at h ⊢
    split at h <;> rename_i hc
    · omega
    · rw [if_neg hc]
      omega
  · intro h
    rw [Int.tmod_eq_emod] at h ⊢
    split at h <;> rename_i hc
    · rw [if_pos hc]; simp
    · omega

theorem place_any (v n : Int) (w : World) (hn0 : 0 < n) (hn1 : n ≤ 4611686018427387904) :
    Calls Try.prog 20 #[.int .i64 v, .int .i64 n] w fun e w' => e = .returned (.int .i64 (v % n)) ∧ w = w' := by
  have h1 := (emod_of_tmod (v := v) hn0).1
  have h2 := (emod_of_tmod (v := v) hn0).2
  have h3 := Int.emod_nonneg v (b := n) (by omega)
  have h4 := Int.emod_lt_of_pos v hn0
  have H1 := hide h1; clear h1
  have H2 := hide h2; clear h2
  go_enter Try.func20, Try.ntmps20
  go_wp2
  · go_ret
    refine ⟨ret_int ?_, rfl⟩
    have h : v.tmod n < 0 := by assumption
    rw [H1.out h]
    unfold wrap64
    omega
  · go_ret
    refine ⟨ret_int ?_, rfl⟩
    exact H2.out (by assumption)

def followsB (s : Int) : Bool := decide (s = 8 ∨ s = 9)
def hearsB (s : Int) : Bool := decide (s = 4 ∨ s = 7 ∨ s = 8 ∨ s = 9)
def aliveB (s : Int) : Bool := decide (4 ≤ s ∧ s ≤ 9)
def nameOf (s : Int) : ByteArray :=
  if s = 1 then ⟨#[105, 110, 105, 116, 105, 97, 108, 105, 122, 105, 110, 103]⟩ else
  if s = 2 then ⟨#[102, 97, 117, 108, 116, 121]⟩ else
  if s = 3 then ⟨#[100, 105, 115, 97, 98, 108, 101, 100]⟩ else
  if s = 4 then ⟨#[108, 105, 115, 116, 101, 110, 105, 110, 103]⟩ else
  if s = 5 then ⟨#[112, 114, 101, 109, 97, 115, 116, 101, 114]⟩ else
  if s = 6 then ⟨#[109, 97, 115, 116, 101, 114]⟩ else
  if s = 7 then ⟨#[112, 97, 115, 115, 105, 118, 101]⟩ else
  if s = 8 then ⟨#[117, 110, 99, 97, 108, 105, 98, 114, 97, 116, 101, 100]⟩ else
  if s = 9 then ⟨#[115, 108, 97, 118, 101]⟩ else
  ⟨#[]⟩
def nextI (s e : Int) (so : Bool) : Int :=
  if e = 1 then (if s = 1 then 4 else s) else if e = 2 then (if s = 3 then s else 2) else if e = 3 then (if s = 2 then 1 else s) else
  if e = 4 then (if hearsB s = true then (if so = true then 4 else 6) else s) else if e = 5 then (if s = 5 then 6 else s) else if e = 6 then (if s = 8 then 9 else s) else
  if e = 7 then 3 else if e = 8 then (if s = 3 then 1 else s) else s
def decI (s d : Int) (same so : Bool) : Int :=
  if aliveB s = false ∨ d < 1 ∨ 6 < d then s else if so = true ∧ d ≠ 6 then 4 else
  if d = 1 ∨ d = 2 then 6 else if d = 3 then (if s = 6 then 6 else 5) else if d = 4 ∨ d = 5 then 7 else
  if same = true ∧ followsB s = true then s else 8

theorem follows_any (s : Int) (w : World) : Calls Try.prog 14 #[.int .i64 s] w fun e w' => e = .returned (.bool (followsB s)) ∧ w = w' := by
  rcases (show (s = 8) ∨ (s = 9) ∨ (s ≠ 8 ∧ s ≠ 9) from by omega) with h | h | h
  · have hv : followsB s = true := by simp [followsB]; omega
    rw [hv]
    clear hv
    subst h
    go_enter Try.func14, Try.ntmps14
    go_wp2
    go_ret
    exact ⟨rfl, rfl⟩
  · have hv : followsB s = true := by simp [followsB]; omega
    rw [hv]
    clear hv
    subst h
    go_enter Try.func14, Try.ntmps14
    go_wp2
    go_ret
    exact ⟨rfl, rfl⟩
  · have hv : followsB s = false := by simp [followsB]; omega
    rw [hv]
    clear hv
    obtain ⟨h8, h9⟩ := h
    have t8 : (s == 8) = false := by rw [beq_eq_false_iff_ne]; omega
    have t9 : (s == 9) = false := by rw [beq_eq_false_iff_ne]; omega
    go_enter Try.func14, Try.ntmps14
    go_wp2
    go_ret
    exact ⟨rfl, rfl⟩

theorem rfollows_any (s : Int) (w : World) : Calls Try.prog 15 #[.int .i64 s] w fun e w' => e = .returned (.bool (followsB s)) ∧ w = w' := by
  rcases (show (s = 8) ∨ (s = 9) ∨ (s ≠ 8 ∧ s ≠ 9) from by omega) with h | h | h
  · have hv : followsB s = true := by simp [followsB]; omega
    rw [hv]
    clear hv
    subst h
    go_enter Try.func15, Try.ntmps15
    go_wp2
    go_ret
    exact ⟨rfl, rfl⟩
  · have hv : followsB s = true := by simp [followsB]; omega
    rw [hv]
    clear hv
    subst h
    go_enter Try.func15, Try.ntmps15
    go_wp2
    go_ret
    exact ⟨rfl, rfl⟩
  · have hv : followsB s = false := by simp [followsB]; omega
    rw [hv]
    clear hv
    obtain ⟨h8, h9⟩ := h
    have t8 : (s == 8) = false := by rw [beq_eq_false_iff_ne]; omega
    have t9 : (s == 9) = false := by rw [beq_eq_false_iff_ne]; omega
    go_enter Try.func15, Try.ntmps15
    go_wp2
    go_ret
    exact ⟨rfl, rfl⟩

theorem hears_any (s : Int) (w : World) : Calls Try.prog 12 #[.int .i64 s] w fun e w' => e = .returned (.bool (hearsB s)) ∧ w = w' := by
  rcases (show (s = 4) ∨ (s = 7) ∨ (s = 8) ∨ (s = 9) ∨ (s ≠ 4 ∧ s ≠ 7 ∧ s ≠ 8 ∧ s ≠ 9) from by omega) with h | h | h | h | h
  · have hv : hearsB s = true := by simp [hearsB]; omega
    rw [hv]
    clear hv
    subst h
    go_enter Try.func12, Try.ntmps12
    go_wp2
    go_ret
    exact ⟨rfl, rfl⟩
  · have hv : hearsB s = true := by simp [hearsB]; omega
    rw [hv]
    clear hv
    subst h
    go_enter Try.func12, Try.ntmps12
    go_wp2
    go_ret
    exact ⟨rfl, rfl⟩
  · have hv : hearsB s = true := by simp [hearsB]; omega
    rw [hv]
    clear hv
    subst h
    go_enter Try.func12, Try.ntmps12
    go_wp2
    go_ret
    exact ⟨rfl, rfl⟩
  · have hv : hearsB s = true := by simp [hearsB]; omega
    rw [hv]
    clear hv
    subst h
    go_enter Try.func12, Try.ntmps12
    go_wp2
    go_ret
    exact ⟨rfl, rfl⟩
  · have hv : hearsB s = false := by simp [hearsB]; omega
    rw [hv]
    clear hv
    obtain ⟨h4, h7, h8, h9⟩ := h
    have t4 : (s == 4) = false := by rw [beq_eq_false_iff_ne]; omega
    have t7 : (s == 7) = false := by rw [beq_eq_false_iff_ne]; omega
    have t8 : (s == 8) = false := by rw [beq_eq_false_iff_ne]; omega
    have t9 : (s == 9) = false := by rw [beq_eq_false_iff_ne]; omega
    go_enter Try.func12, Try.ntmps12
    go_wp2
    go_ret
    exact ⟨rfl, rfl⟩

theorem rhears_any (s : Int) (w : World) : Calls Try.prog 13 #[.int .i64 s] w fun e w' => e = .returned (.bool (hearsB s)) ∧ w = w' := by
  rcases (show (s = 4) ∨ (s = 7) ∨ (s = 8) ∨ (s = 9) ∨ (s < 4) ∨ (4 < s ∧ s < 7) ∨ (9 < s) from by omega) with h | h | h | h | h | h | h
  · have hv : hearsB s = true := by simp [hearsB]; omega
    rw [hv]
    clear hv
    subst h
    go_enter Try.func13, Try.ntmps13
    go_wp2
    go_ret
    exact ⟨rfl, rfl⟩
  · have hv : hearsB s = true := by simp [hearsB]; omega
    rw [hv]
    clear hv
    subst h
    go_enter Try.func13, Try.ntmps13
    go_wp2
    go_ret
    exact ⟨rfl, rfl⟩
  · have hv : hearsB s = true := by simp [hearsB]; omega
    rw [hv]
    clear hv
    subst h
    go_enter Try.func13, Try.ntmps13
    go_wp2
    go_ret
    exact ⟨rfl, rfl⟩
  · have hv : hearsB s = true := by simp [hearsB]; omega
    rw [hv]
    clear hv
    subst h
    go_enter Try.func13, Try.ntmps13
    go_wp2
    go_ret
    exact ⟨rfl, rfl⟩
  · have hv : hearsB s = false := by simp [hearsB]; omega
    rw [hv]
    clear hv
    have t4 : (s == 4) = false := by rw [beq_eq_false_iff_ne]; omega
    go_enter Try.func13, Try.ntmps13
    go_wp2
    go_ret
    exact ⟨rfl, rfl⟩
  · have hv : hearsB s = false := by simp [hearsB]; omega
    rw [hv]
    clear hv
    obtain ⟨ha, hb⟩ := h
    have t4 : (s == 4) = false := by rw [beq_eq_false_iff_ne]; omega
    go_enter Try.func13, Try.ntmps13
    go_wp2
    go_ret
    exact ⟨rfl, rfl⟩
  · have hv : hearsB s = false := by simp [hearsB]; omega
    rw [hv]
    clear hv
    have t4 : (s == 4) = false := by rw [beq_eq_false_iff_ne]; omega
    have t99 : decide (s ≤ 9) = false := by simp; omega
    go_enter Try.func13, Try.ntmps13
    go_wp2
    go_ret
    exact ⟨rfl, rfl⟩

theorem alive_any (s : Int) (w : World) : Calls Try.prog 16 #[.int .i64 s] w fun e w' => e = .returned (.bool (aliveB s)) ∧ w = w' := by
  rcases (show (4 ≤ s ∧ s ≤ 9) ∨ (s < 4) ∨ (9 < s) from by omega) with h | h | h
  · have hv : aliveB s = true := by simp [aliveB]; omega
    rw [hv]
    clear hv
    obtain ⟨ha, hb⟩ := h
    go_enter Try.func16, Try.ntmps16
    go_wp2
    go_ret
    exact ⟨rfl, rfl⟩
  · have hv : aliveB s = false := by simp [aliveB]; omega
    rw [hv]
    clear hv
    go_enter Try.func16, Try.ntmps16
    go_wp2
    go_ret
    exact ⟨rfl, rfl⟩
  · have hv : aliveB s = false := by simp [aliveB]; omega
    rw [hv]
    clear hv
    have t99 : decide (s ≤ 9) = false := by simp; omega
    go_enter Try.func16, Try.ntmps16
    go_wp2
    go_ret
    exact ⟨rfl, rfl⟩

theorem ralive_any (s : Int) (w : World) : Calls Try.prog 17 #[.int .i64 s] w fun e w' => e = .returned (.bool (aliveB s)) ∧ w = w' := by
  rcases (show (4 ≤ s ∧ s ≤ 9) ∨ (s < 4) ∨ (9 < s) from by omega) with h | h | h
  · have hv : aliveB s = true := by simp [aliveB]; omega
    rw [hv]
    clear hv
    obtain ⟨ha, hb⟩ := h
    go_enter Try.func17, Try.ntmps17
    go_wp2
    go_ret
    exact ⟨rfl, rfl⟩
  · have hv : aliveB s = false := by simp [aliveB]; omega
    rw [hv]
    clear hv
    go_enter Try.func17, Try.ntmps17
    go_wp2
    go_ret
    exact ⟨rfl, rfl⟩
  · have hv : aliveB s = false := by simp [aliveB]; omega
    rw [hv]
    clear hv
    have t99 : decide (s ≤ 9) = false := by simp; omega
    go_enter Try.func17, Try.ntmps17
    go_wp2
    go_ret
    exact ⟨rfl, rfl⟩

set_option maxHeartbeats 4000000 in
set_option maxRecDepth 100000 in
theorem name_any (s : Int) (w : World) : Calls Try.prog 18 #[.int .i64 s] w fun e w' => e = .returned (.string (nameOf s)) ∧ w.grownBy w' none := by
  rcases (show s < 0 ∨ s = 0 ∨ s = 1 ∨ s = 2 ∨ s = 3 ∨ s = 4 ∨ s = 5 ∨ s = 6 ∨ s = 7 ∨ s = 8 ∨ s = 9 ∨ 9 < s from by omega) with h | h | h | h | h | h | h | h | h | h | h | h
  · have hv : nameOf s = ⟨#[]⟩ := by unfold nameOf; iterate 9 rw [if_neg (by omega)]
    rw [hv]
    clear hv
    go_enter Try.func18, Try.ntmps18
    go_wp2
    go_ret
    exact ⟨rfl, by repeat (first | exact gb_refl _ _ | apply gb_drew | apply gb_alloc)⟩
  · subst h
    rw [show nameOf 0 = ⟨#[]⟩ from rfl]
    go_enter Try.func18, Try.ntmps18
    go_wp2
    go_ret
    exact ⟨rfl, by repeat (first | exact gb_refl _ _ | apply gb_drew | apply gb_alloc)⟩
  · subst h
    rw [show nameOf 1 = ⟨#[105, 110, 105, 116, 105, 97, 108, 105, 122, 105, 110, 103]⟩ from rfl]
    go_enter Try.func18, Try.ntmps18
    go_wp2
    go_ret
    exact ⟨rfl, by repeat (first | exact gb_refl _ _ | apply gb_drew | apply gb_alloc)⟩
  · subst h
    rw [show nameOf 2 = ⟨#[102, 97, 117, 108, 116, 121]⟩ from rfl]
    go_enter Try.func18, Try.ntmps18
    go_wp2
    go_ret
    exact ⟨rfl, by repeat (first | exact gb_refl _ _ | apply gb_drew | apply gb_alloc)⟩
  · subst h
    rw [show nameOf 3 = ⟨#[100, 105, 115, 97, 98, 108, 101, 100]⟩ from rfl]
    go_enter Try.func18, Try.ntmps18
    go_wp2
    go_ret
    exact ⟨rfl, by repeat (first | exact gb_refl _ _ | apply gb_drew | apply gb_alloc)⟩
  · subst h
    rw [show nameOf 4 = ⟨#[108, 105, 115, 116, 101, 110, 105, 110, 103]⟩ from rfl]
    go_enter Try.func18, Try.ntmps18
    go_wp2
    go_ret
    exact ⟨rfl, by repeat (first | exact gb_refl _ _ | apply gb_drew | apply gb_alloc)⟩
  · subst h
    rw [show nameOf 5 = ⟨#[112, 114, 101, 109, 97, 115, 116, 101, 114]⟩ from rfl]
    go_enter Try.func18, Try.ntmps18
    go_wp2
    go_ret
    exact ⟨rfl, by repeat (first | exact gb_refl _ _ | apply gb_drew | apply gb_alloc)⟩
  · subst h
    rw [show nameOf 6 = ⟨#[109, 97, 115, 116, 101, 114]⟩ from rfl]
    go_enter Try.func18, Try.ntmps18
    go_wp2
    go_ret
    exact ⟨rfl, by repeat (first | exact gb_refl _ _ | apply gb_drew | apply gb_alloc)⟩
  · subst h
    rw [show nameOf 7 = ⟨#[112, 97, 115, 115, 105, 118, 101]⟩ from rfl]
    go_enter Try.func18, Try.ntmps18
    go_wp2
    go_ret
    exact ⟨rfl, by repeat (first | exact gb_refl _ _ | apply gb_drew | apply gb_alloc)⟩
  · subst h
    rw [show nameOf 8 = ⟨#[117, 110, 99, 97, 108, 105, 98, 114, 97, 116, 101, 100]⟩ from rfl]
    go_enter Try.func18, Try.ntmps18
    go_wp2
    go_ret
    exact ⟨rfl, by repeat (first | exact gb_refl _ _ | apply gb_drew | apply gb_alloc)⟩
  · subst h
    rw [show nameOf 9 = ⟨#[115, 108, 97, 118, 101]⟩ from rfl]
    go_enter Try.func18, Try.ntmps18
    go_wp2
    go_ret
    exact ⟨rfl, by repeat (first | exact gb_refl _ _ | apply gb_drew | apply gb_alloc)⟩
  · have hv : nameOf s = ⟨#[]⟩ := by unfold nameOf; iterate 9 rw [if_neg (by omega)]
    rw [hv]
    clear hv
    go_enter Try.func18, Try.ntmps18
    go_wp2
    go_ret
    exact ⟨rfl, by repeat (first | exact gb_refl _ _ | apply gb_drew | apply gb_alloc)⟩

set_option maxHeartbeats 4000000 in
set_option maxRecDepth 100000 in
theorem rname_any (s : Int) (w : World) : Calls Try.prog 19 #[.int .i64 s] w fun e w' => e = .returned (.string (nameOf s)) ∧ w.grownBy w' none := by
  rcases (show s < 0 ∨ s = 0 ∨ s = 1 ∨ s = 2 ∨ s = 3 ∨ s = 4 ∨ s = 5 ∨ s = 6 ∨ s = 7 ∨ s = 8 ∨ s = 9 ∨ 9 < s from by omega) with h | h | h | h | h | h | h | h | h | h | h | h
  · have hv : nameOf s = ⟨#[]⟩ := by unfold nameOf; iterate 9 rw [if_neg (by omega)]
    rw [hv]
    clear hv
    have t1 : (s == 1) = false := by rw [beq_eq_false_iff_ne]; omega
    have t2 : (s == 2) = false := by rw [beq_eq_false_iff_ne]; omega
    have t3 : (s == 3) = false := by rw [beq_eq_false_iff_ne]; omega
    have t4 : (s == 4) = false := by rw [beq_eq_false_iff_ne]; omega
    have t5 : (s == 5) = false := by rw [beq_eq_false_iff_ne]; omega
    have t6 : (s == 6) = false := by rw [beq_eq_false_iff_ne]; omega
    have t7 : (s == 7) = false := by rw [beq_eq_false_iff_ne]; omega
    have t8 : (s == 8) = false := by rw [beq_eq_false_iff_ne]; omega
    have t9 : (s == 9) = false := by rw [beq_eq_false_iff_ne]; omega
    go_enter Try.func19, Try.ntmps19
    go_wp2
    go_ret
    exact ⟨rfl, by repeat (first | exact gb_refl _ _ | apply gb_drew | apply gb_alloc)⟩
  · subst h
    rw [show nameOf 0 = ⟨#[]⟩ from rfl]
    go_enter Try.func19, Try.ntmps19
    go_wp2
    go_ret
    exact ⟨rfl, by repeat (first | exact gb_refl _ _ | apply gb_drew | apply gb_alloc)⟩
  · subst h
    rw [show nameOf 1 = ⟨#[105, 110, 105, 116, 105, 97, 108, 105, 122, 105, 110, 103]⟩ from rfl]
    go_enter Try.func19, Try.ntmps19
    go_wp2
    go_ret
    exact ⟨rfl, by repeat (first | exact gb_refl _ _ | apply gb_drew | apply gb_alloc)⟩
  · subst h
    rw [show nameOf 2 = ⟨#[102, 97, 117, 108, 116, 121]⟩ from rfl]
    go_enter Try.func19, Try.ntmps19
    go_wp2
    go_ret
    exact ⟨rfl, by repeat (first | exact gb_refl _ _ | apply gb_drew | apply gb_alloc)⟩
  · subst h
    rw [show nameOf 3 = ⟨#[100, 105, 115, 97, 98, 108, 101, 100]⟩ from rfl]
    go_enter Try.func19, Try.ntmps19
    go_wp2
    go_ret
    exact ⟨rfl, by repeat (first | exact gb_refl _ _ | apply gb_drew | apply gb_alloc)⟩
  · subst h
    rw [show nameOf 4 = ⟨#[108, 105, 115, 116, 101, 110, 105, 110, 103]⟩ from rfl]
    go_enter Try.func19, Try.ntmps19
    go_wp2
    go_ret
    exact ⟨rfl, by repeat (first | exact gb_refl _ _ | apply gb_drew | apply gb_alloc)⟩
  · subst h
    rw [show nameOf 5 = ⟨#[112, 114, 101, 109, 97, 115, 116, 101, 114]⟩ from rfl]
    go_enter Try.func19, Try.ntmps19
    go_wp2
    go_ret
    exact ⟨rfl, by repeat (first | exact gb_refl _ _ | apply gb_drew | apply gb_alloc)⟩
  · subst h
    rw [show nameOf 6 = ⟨#[109, 97, 115, 116, 101, 114]⟩ from rfl]
    go_enter Try.func19, Try.ntmps19
    go_wp2
    go_ret
    exact ⟨rfl, by repeat (first | exact gb_refl _ _ | apply gb_drew | apply gb_alloc)⟩
  · subst h
    rw [show nameOf 7 = ⟨#[112, 97, 115, 115, 105, 118, 101]⟩ from rfl]
    go_enter Try.func19, Try.ntmps19
    go_wp2
    go_ret
    exact ⟨rfl, by repeat (first | exact gb_refl _ _ | apply gb_drew | apply gb_alloc)⟩
  · subst h
    rw [show nameOf 8 = ⟨#[117, 110, 99, 97, 108, 105, 98, 114, 97, 116, 101, 100]⟩ from rfl]
    go_enter Try.func19, Try.ntmps19
    go_wp2
    go_ret
    exact ⟨rfl, by repeat (first | exact gb_refl _ _ | apply gb_drew | apply gb_alloc)⟩
  · subst h
    rw [show nameOf 9 = ⟨#[115, 108, 97, 118, 101]⟩ from rfl]
    go_enter Try.func19, Try.ntmps19
    go_wp2
    go_ret
    exact ⟨rfl, by repeat (first | exact gb_refl _ _ | apply gb_drew | apply gb_alloc)⟩
  · have hv : nameOf s = ⟨#[]⟩ := by unfold nameOf; iterate 9 rw [if_neg (by omega)]
    rw [hv]
    clear hv
    have t1 : (s == 1) = false := by rw [beq_eq_false_iff_ne]; omega
    have t2 : (s == 2) = false := by rw [beq_eq_false_iff_ne]; omega
    have t3 : (s == 3) = false := by rw [beq_eq_false_iff_ne]; omega
    have t4 : (s == 4) = false := by rw [beq_eq_false_iff_ne]; omega
    have t5 : (s == 5) = false := by rw [beq_eq_false_iff_ne]; omega
    have t6 : (s == 6) = false := by rw [beq_eq_false_iff_ne]; omega
    have t7 : (s == 7) = false := by rw [beq_eq_false_iff_ne]; omega
    have t8 : (s == 8) = false := by rw [beq_eq_false_iff_ne]; omega
    have t9 : (s == 9) = false := by rw [beq_eq_false_iff_ne]; omega
    go_enter Try.func19, Try.ntmps19
    go_wp2
    go_ret
    exact ⟨rfl, by repeat (first | exact gb_refl _ _ | apply gb_drew | apply gb_alloc)⟩

end Go.Proofs.Ytekgkflabcbobaa
