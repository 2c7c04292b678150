/- Struct arguments by value, opened to their cells. -/
import Derived.Test.YtabibaamlhchbaaObj
import Derived.ChangeShapes
import Derived.WideShapes
namespace Go.Proofs.Ytabibaamlhchbaa
open Go.RowKit

theorem cell_i64 {w : World} {r : Reach} {b : Nat} {v : Value} (h : Cell.okWide Try.prog w r b 3 v) : ∃ n, v = .int .i64 n := by
  simp only [Cell.okWide, Try.underlying3] at h
  cases v <;> simp_all [Cell.ok]
theorem cell_u64 {w : World} {r : Reach} {b : Nat} {v : Value} (h : Cell.okWide Try.prog w r b 30 v) : ∃ n, v = .int .u64 n := by
  simp only [Cell.okWide, Try.underlying30] at h
  cases v <;> simp_all [Cell.ok]
theorem cell_bool {w : World} {r : Reach} {b : Nat} {v : Value} (h : Cell.okWide Try.prog w r b 4 v) : ∃ c, v = .bool c := by
  simp only [Cell.okWide, Try.underlying4] at h
  cases v <;> simp_all [Cell.ok]

theorem types36 : Try.prog.cellTypes Try.prog.depth 36 = some [30, 3, 3, 3, 3, 3, 3, 3, 4, 3, 3, 3, 3, 4, 4, 3, 3, 3, 3, 3, 3, 3, 4] := by kernel_rfl
theorem size36 : Try.prog.cellsOf 36 = 23 := by kernel_rfl
theorem open_conf {w : World} {r : Reach} {b : Nat} {v : Value} (h : Value.okWide Try.prog w r b 36 v) : ∃ (c0 : Int) (c1 : Int) (c2 : Int) (c3 : Int) (c4 : Int) (c5 : Int) (c6 : Int) (c7 : Int) (c8 : Bool) (c9 : Int) (c10 : Int) (c11 : Int) (c12 : Int) (c13 : Bool) (c14 : Bool) (c15 : Int) (c16 : Int) (c17 : Int) (c18 : Int) (c19 : Int) (c20 : Int) (c21 : Int) (c22 : Bool), v = .agg #[.int .u64 c0, .int .i64 c1, .int .i64 c2, .int .i64 c3, .int .i64 c4, .int .i64 c5, .int .i64 c6, .int .i64 c7, .bool c8, .int .i64 c9, .int .i64 c10, .int .i64 c11, .int .i64 c12, .bool c13, .bool c14, .int .i64 c15, .int .i64 c16, .int .i64 c17, .int .i64 c18, .int .i64 c19, .int .i64 c20, .int .i64 c21, .bool c22] := by
  simp only [Value.okWide, Try.underlying36] at h
  obtain ⟨cs, rfl, hsz, ts, hts, _, hall⟩ := h
  rw [types36] at hts
  cases hts
  rw [size36] at hsz
  obtain ⟨l⟩ := cs
  match l, hsz with
  | [z0, z1, z2, z3, z4, z5, z6, z7, z8, z9, z10, z11, z12, z13, z14, z15, z16, z17, z18, z19, z20, z21, z22], _ =>
    obtain ⟨x0, rfl⟩ : ∃ x0, z0 = .int .u64 x0 := by
      obtain ⟨u, hu, hc⟩ := hall 0 z0 rfl
      cases hu
      exact cell_u64 hc
    obtain ⟨x1, rfl⟩ : ∃ x1, z1 = .int .i64 x1 := by
      obtain ⟨u, hu, hc⟩ := hall 1 z1 rfl
      cases hu
      exact cell_i64 hc
    obtain ⟨x2, rfl⟩ : ∃ x2, z2 = .int .i64 x2 := by
      obtain ⟨u, hu, hc⟩ := hall 2 z2 rfl
      cases hu
      exact cell_i64 hc
    obtain ⟨x3, rfl⟩ : ∃ x3, z3 = .int .i64 x3 := by
      obtain ⟨u, hu, hc⟩ := hall 3 z3 rfl
      cases hu
      exact cell_i64 hc
    obtain ⟨x4, rfl⟩ : ∃ x4, z4 = .int .i64 x4 := by
      obtain ⟨u, hu, hc⟩ := hall 4 z4 rfl
      cases hu
      exact cell_i64 hc
    obtain ⟨x5, rfl⟩ : ∃ x5, z5 = .int .i64 x5 := by
      obtain ⟨u, hu, hc⟩ := hall 5 z5 rfl
      cases hu
      exact cell_i64 hc
    obtain ⟨x6, rfl⟩ : ∃ x6, z6 = .int .i64 x6 := by
      obtain ⟨u, hu, hc⟩ := hall 6 z6 rfl
      cases hu
      exact cell_i64 hc
    obtain ⟨x7, rfl⟩ : ∃ x7, z7 = .int .i64 x7 := by
      obtain ⟨u, hu, hc⟩ := hall 7 z7 rfl
      cases hu
      exact cell_i64 hc
    obtain ⟨x8, rfl⟩ : ∃ x8, z8 = .bool x8 := by
      obtain ⟨u, hu, hc⟩ := hall 8 z8 rfl
      cases hu
      exact cell_bool hc
    obtain ⟨x9, rfl⟩ : ∃ x9, z9 = .int .i64 x9 := by
      obtain ⟨u, hu, hc⟩ := hall 9 z9 rfl
      cases hu
      exact cell_i64 hc
    obtain ⟨x10, rfl⟩ : ∃ x10, z10 = .int .i64 x10 := by
      obtain ⟨u, hu, hc⟩ := hall 10 z10 rfl
      cases hu
      exact cell_i64 hc
    obtain ⟨x11, rfl⟩ : ∃ x11, z11 = .int .i64 x11 := by
      obtain ⟨u, hu, hc⟩ := hall 11 z11 rfl
      cases hu
      exact cell_i64 hc
    obtain ⟨x12, rfl⟩ : ∃ x12, z12 = .int .i64 x12 := by
      obtain ⟨u, hu, hc⟩ := hall 12 z12 rfl
      cases hu
      exact cell_i64 hc
    obtain ⟨x13, rfl⟩ : ∃ x13, z13 = .bool x13 := by
      obtain ⟨u, hu, hc⟩ := hall 13 z13 rfl
      cases hu
      exact cell_bool hc
    obtain ⟨x14, rfl⟩ : ∃ x14, z14 = .bool x14 := by
      obtain ⟨u, hu, hc⟩ := hall 14 z14 rfl
      cases hu
      exact cell_bool hc
    obtain ⟨x15, rfl⟩ : ∃ x15, z15 = .int .i64 x15 := by
      obtain ⟨u, hu, hc⟩ := hall 15 z15 rfl
      cases hu
      exact cell_i64 hc
    obtain ⟨x16, rfl⟩ : ∃ x16, z16 = .int .i64 x16 := by
      obtain ⟨u, hu, hc⟩ := hall 16 z16 rfl
      cases hu
      exact cell_i64 hc
    obtain ⟨x17, rfl⟩ : ∃ x17, z17 = .int .i64 x17 := by
      obtain ⟨u, hu, hc⟩ := hall 17 z17 rfl
      cases hu
      exact cell_i64 hc
    obtain ⟨x18, rfl⟩ : ∃ x18, z18 = .int .i64 x18 := by
      obtain ⟨u, hu, hc⟩ := hall 18 z18 rfl
      cases hu
      exact cell_i64 hc
    obtain ⟨x19, rfl⟩ : ∃ x19, z19 = .int .i64 x19 := by
      obtain ⟨u, hu, hc⟩ := hall 19 z19 rfl
      cases hu
      exact cell_i64 hc
    obtain ⟨x20, rfl⟩ : ∃ x20, z20 = .int .i64 x20 := by
      obtain ⟨u, hu, hc⟩ := hall 20 z20 rfl
      cases hu
      exact cell_i64 hc
    obtain ⟨x21, rfl⟩ : ∃ x21, z21 = .int .i64 x21 := by
      obtain ⟨u, hu, hc⟩ := hall 21 z21 rfl
      cases hu
      exact cell_i64 hc
    obtain ⟨x22, rfl⟩ : ∃ x22, z22 = .bool x22 := by
      obtain ⟨u, hu, hc⟩ := hall 22 z22 rfl
      cases hu
      exact cell_bool hc
    exact ⟨x0, x1, x2, x3, x4, x5, x6, x7, x8, x9, x10, x11, x12, x13, x14, x15, x16, x17, x18, x19, x20, x21, x22, rfl⟩

theorem types40 : Try.prog.cellTypes Try.prog.depth 40 = some [3, 3, 3, 3, 3, 30, 3, 30, 3, 30, 3] := by kernel_rfl
theorem size40 : Try.prog.cellsOf 40 = 11 := by kernel_rfl
theorem open_vec {w : World} {r : Reach} {b : Nat} {v : Value} (h : Value.okWide Try.prog w r b 40 v) : ∃ (v0 : Int) (v1 : Int) (v2 : Int) (v3 : Int) (v4 : Int) (v5 : Int) (v6 : Int) (v7 : Int) (v8 : Int) (v9 : Int) (v10 : Int), v = .agg #[.int .i64 v0, .int .i64 v1, .int .i64 v2, .int .i64 v3, .int .i64 v4, .int .u64 v5, .int .i64 v6, .int .u64 v7, .int .i64 v8, .int .u64 v9, .int .i64 v10] := by
  simp only [Value.okWide, Try.underlying40] at h
  obtain ⟨cs, rfl, hsz, ts, hts, _, hall⟩ := h
  rw [types40] at hts
  cases hts
  rw [size40] at hsz
  obtain ⟨l⟩ := cs
  match l, hsz with
  | [z0, z1, z2, z3, z4, z5, z6, z7, z8, z9, z10], _ =>
    obtain ⟨x0, rfl⟩ : ∃ x0, z0 = .int .i64 x0 := by
      obtain ⟨u, hu, hc⟩ := hall 0 z0 rfl
      cases hu
      exact cell_i64 hc
    obtain ⟨x1, rfl⟩ : ∃ x1, z1 = .int .i64 x1 := by
      obtain ⟨u, hu, hc⟩ := hall 1 z1 rfl
      cases hu
      exact cell_i64 hc
    obtain ⟨x2, rfl⟩ : ∃ x2, z2 = .int .i64 x2 := by
      obtain ⟨u, hu, hc⟩ := hall 2 z2 rfl
      cases hu
      exact cell_i64 hc
    obtain ⟨x3, rfl⟩ : ∃ x3, z3 = .int .i64 x3 := by
      obtain ⟨u, hu, hc⟩ := hall 3 z3 rfl
      cases hu
      exact cell_i64 hc
    obtain ⟨x4, rfl⟩ : ∃ x4, z4 = .int .i64 x4 := by
      obtain ⟨u, hu, hc⟩ := hall 4 z4 rfl
      cases hu
      exact cell_i64 hc
    obtain ⟨x5, rfl⟩ : ∃ x5, z5 = .int .u64 x5 := by
      obtain ⟨u, hu, hc⟩ := hall 5 z5 rfl
      cases hu
      exact cell_u64 hc
    obtain ⟨x6, rfl⟩ : ∃ x6, z6 = .int .i64 x6 := by
      obtain ⟨u, hu, hc⟩ := hall 6 z6 rfl
      cases hu
      exact cell_i64 hc
    obtain ⟨x7, rfl⟩ : ∃ x7, z7 = .int .u64 x7 := by
      obtain ⟨u, hu, hc⟩ := hall 7 z7 rfl
      cases hu
      exact cell_u64 hc
    obtain ⟨x8, rfl⟩ : ∃ x8, z8 = .int .i64 x8 := by
      obtain ⟨u, hu, hc⟩ := hall 8 z8 rfl
      cases hu
      exact cell_i64 hc
    obtain ⟨x9, rfl⟩ : ∃ x9, z9 = .int .u64 x9 := by
      obtain ⟨u, hu, hc⟩ := hall 9 z9 rfl
      cases hu
      exact cell_u64 hc
    obtain ⟨x10, rfl⟩ : ∃ x10, z10 = .int .i64 x10 := by
      obtain ⟨u, hu, hc⟩ := hall 10 z10 rfl
      cases hu
      exact cell_i64 hc
    exact ⟨x0, x1, x2, x3, x4, x5, x6, x7, x8, x9, x10, rfl⟩

theorem types34 : Try.prog.cellTypes Try.prog.depth 34 = some [3, 3, 3] := by kernel_rfl
theorem size34 : Try.prog.cellsOf 34 = 3 := by kernel_rfl
theorem open_times {w : World} {r : Reach} {b : Nat} {v : Value} (h : Value.okWide Try.prog w r b 34 v) : ∃ (t0 : Int) (t1 : Int) (t2 : Int), v = .agg #[.int .i64 t0, .int .i64 t1, .int .i64 t2] := by
  simp only [Value.okWide, Try.underlying34] at h
  obtain ⟨cs, rfl, hsz, ts, hts, _, hall⟩ := h
  rw [types34] at hts
  cases hts
  rw [size34] at hsz
  obtain ⟨l⟩ := cs
  match l, hsz with
  | [z0, z1, z2], _ =>
    obtain ⟨x0, rfl⟩ : ∃ x0, z0 = .int .i64 x0 := by
      obtain ⟨u, hu, hc⟩ := hall 0 z0 rfl
      cases hu
      exact cell_i64 hc
    obtain ⟨x1, rfl⟩ : ∃ x1, z1 = .int .i64 x1 := by
      obtain ⟨u, hu, hc⟩ := hall 1 z1 rfl
      cases hu
      exact cell_i64 hc
    obtain ⟨x2, rfl⟩ : ∃ x2, z2 = .int .i64 x2 := by
      obtain ⟨u, hu, hc⟩ := hall 2 z2 rfl
      cases hu
      exact cell_i64 hc
    exact ⟨x0, x1, x2, rfl⟩

theorem types42 : Try.prog.cellTypes Try.prog.depth 42 = some [30, 3, 30, 3, 3, 3, 3, 3, 3, 3, 3, 3] := by kernel_rfl
theorem size42 : Try.prog.cellsOf 42 = 12 := by kernel_rfl
theorem open_par {w : World} {r : Reach} {b : Nat} {v : Value} (h : Value.okWide Try.prog w r b 42 v) : ∃ (p0 : Int) (p1 : Int) (p2 : Int) (p3 : Int) (p4 : Int) (p5 : Int) (p6 : Int) (p7 : Int) (p8 : Int) (p9 : Int) (p10 : Int) (p11 : Int), v = .agg #[.int .u64 p0, .int .i64 p1, .int .u64 p2, .int .i64 p3, .int .i64 p4, .int .i64 p5, .int .i64 p6, .int .i64 p7, .int .i64 p8, .int .i64 p9, .int .i64 p10, .int .i64 p11] := by
  simp only [Value.okWide, Try.underlying42] at h
  obtain ⟨cs, rfl, hsz, ts, hts, _, hall⟩ := h
  rw [types42] at hts
  cases hts
  rw [size42] at hsz
  obtain ⟨l⟩ := cs
  match l, hsz with
  | [z0, z1, z2, z3, z4, z5, z6, z7, z8, z9, z10, z11], _ =>
    obtain ⟨x0, rfl⟩ : ∃ x0, z0 = .int .u64 x0 := by
      obtain ⟨u, hu, hc⟩ := hall 0 z0 rfl
      cases hu
      exact cell_u64 hc
    obtain ⟨x1, rfl⟩ : ∃ x1, z1 = .int .i64 x1 := by
      obtain ⟨u, hu, hc⟩ := hall 1 z1 rfl
      cases hu
      exact cell_i64 hc
    obtain ⟨x2, rfl⟩ : ∃ x2, z2 = .int .u64 x2 := by
      obtain ⟨u, hu, hc⟩ := hall 2 z2 rfl
      cases hu
      exact cell_u64 hc
    obtain ⟨x3, rfl⟩ : ∃ x3, z3 = .int .i64 x3 := by
      obtain ⟨u, hu, hc⟩ := hall 3 z3 rfl
      cases hu
      exact cell_i64 hc
    obtain ⟨x4, rfl⟩ : ∃ x4, z4 = .int .i64 x4 := by
      obtain ⟨u, hu, hc⟩ := hall 4 z4 rfl
      cases hu
      exact cell_i64 hc
    obtain ⟨x5, rfl⟩ : ∃ x5, z5 = .int .i64 x5 := by
      obtain ⟨u, hu, hc⟩ := hall 5 z5 rfl
      cases hu
      exact cell_i64 hc
    obtain ⟨x6, rfl⟩ : ∃ x6, z6 = .int .i64 x6 := by
      obtain ⟨u, hu, hc⟩ := hall 6 z6 rfl
      cases hu
      exact cell_i64 hc
    obtain ⟨x7, rfl⟩ : ∃ x7, z7 = .int .i64 x7 := by
      obtain ⟨u, hu, hc⟩ := hall 7 z7 rfl
      cases hu
      exact cell_i64 hc
    obtain ⟨x8, rfl⟩ : ∃ x8, z8 = .int .i64 x8 := by
      obtain ⟨u, hu, hc⟩ := hall 8 z8 rfl
      cases hu
      exact cell_i64 hc
    obtain ⟨x9, rfl⟩ : ∃ x9, z9 = .int .i64 x9 := by
      obtain ⟨u, hu, hc⟩ := hall 9 z9 rfl
      cases hu
      exact cell_i64 hc
    obtain ⟨x10, rfl⟩ : ∃ x10, z10 = .int .i64 x10 := by
      obtain ⟨u, hu, hc⟩ := hall 10 z10 rfl
      cases hu
      exact cell_i64 hc
    obtain ⟨x11, rfl⟩ : ∃ x11, z11 = .int .i64 x11 := by
      obtain ⟨u, hu, hc⟩ := hall 11 z11 rfl
      cases hu
      exact cell_i64 hc
    exact ⟨x0, x1, x2, x3, x4, x5, x6, x7, x8, x9, x10, x11, rfl⟩
end Go.Proofs.Ytabibaamlhchbaa
