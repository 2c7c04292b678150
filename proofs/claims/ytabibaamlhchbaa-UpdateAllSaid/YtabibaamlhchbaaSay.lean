/- Contract of update.Say. -/
import Derived.Test.YtabibaamlhchbaaObj
import Derived.Deep.Cut
import Derived.Deep.DeepMust
namespace Go.Proofs.Ytabibaamlhchbaa
open Go.RowKit

theorem Blk.setRow {w : World} {b : Nat} {t : TypeId} {cs : Array Value} (h : Blk w b t cs) (cs' : Array Value) : Blk (w.setRow b cs') b t cs' := setRow_heap w b cs cs' t (0, 0) h
theorem gb_setRow {a w : World} {b : Nat} (h : a.grownBy w none) (hb : a.heap.size ≤ b) (cs : Array Value) : a.grownBy (w.setRow b cs) none := by
  refine gb_young h (b := b) ⟨rfl, rfl, rfl, by simp [World.setRow], fun k hk hne => ?_⟩ hb
  simp only [World.setRow, Array.getElem?_modify]
  rw [if_neg (fun e => hne (by rw [e]))]

theorem gate_op {P : Program} {ops : Array Oper} {rest : List Oper} {o : Oper} {a : Act} {Q : Exit → Act → World → Prop} {W : World} (op : Op) (_ho : o.op = op) (h : wpList P ops Q (o :: rest) a W) : wpList P ops Q (o :: rest) a W := h

theorem with3 {w : World} {A B C : Array Value} {ta tb tc : TypeId} {motive : World → Prop}
    (h : ∀ w3, Blk w3 w.heap.size ta A → Blk w3 (w.heap.size + 1) tb B → Blk w3 (w.heap.size + 2) tc C → w.grownBy w3 none → w3.heap.size = w.heap.size + 3 → motive w3) : motive (((w.alloc (.cells A ta)).alloc (.cells B tb)).alloc (.cells C tc)) := by
  have s1 : (w.alloc (.cells A ta)).heap.size = w.heap.size + 1 := by simp
  have s2 : ((w.alloc (.cells A ta)).alloc (.cells B tb)).heap.size = w.heap.size + 2 := by simp
  refine h _ (Blk.alloc (Blk.alloc (Blk.new w ta A) _) _) ?_ ?_ (gb_alloc (gb_alloc (gb_alloc (gb_refl _ _) _) _) _) (by simp)
  · have := Blk.alloc (Blk.new (w.alloc (.cells A ta)) tb B) (.cells C tc)
    rwa [s1] at this
  · have := Blk.new ((w.alloc (.cells A ta)).alloc (.cells B tb)) tc C
    rwa [s2] at this

set_option maxRecDepth 100000 in
theorem say_any (c0 : Int) (c1 : Int) (c2 : Int) (c3 : Int) (c4 : Int) (c5 : Int) (c6 : Int) (c7 : Int) (c8 : Bool) (c9 : Int) (c10 : Int) (c11 : Int) (c12 : Int) (c13 : Bool) (c14 : Bool) (c15 : Int) (c16 : Int) (c17 : Int) (c18 : Int) (c19 : Int) (c20 : Int) (c21 : Int) (c22 : Bool) (p0 : Int) (p1 : Int) (p2 : Int) (p3 : Int) (p4 : Int) (p5 : Int) (p6 : Int) (p7 : Int) (p8 : Int) (p9 : Int) (p10 : Int) (p11 : Int) (x y : Int) (w : World) :
    Calls Try.prog 19 #[.agg #[.int .u64 c0, .int .i64 c1, .int .i64 c2, .int .i64 c3, .int .i64 c4, .int .i64 c5, .int .i64 c6, .int .i64 c7, .bool c8, .int .i64 c9, .int .i64 c10, .int .i64 c11, .int .i64 c12, .bool c13, .bool c14, .int .i64 c15, .int .i64 c16, .int .i64 c17, .int .i64 c18, .int .i64 c19, .int .i64 c20, .int .i64 c21, .bool c22], .agg #[.int .u64 p0, .int .i64 p1, .int .u64 p2, .int .i64 p3, .int .i64 p4, .int .i64 p5, .int .i64 p6, .int .i64 p7, .int .i64 p8, .int .i64 p9, .int .i64 p10, .int .i64 p11], .int .i64 x, .int .i64 y] w fun e w' => e = .returned (.agg #[.int .i64 11, .int .i64 c2, .int .i64 p10, .int .i64 0, .int .u64 c0, .int .i64 x, .int .i64 y, .int .i64 c9, .int .i64 0, .int .u64 0, .int .i64 0, .int .i64 p9, .int .i64 p6, .int .i64 p3, .int .i64 p4, .int .i64 p5, .int .i64 p7, .int .u64 p2, .int .i64 p8, .int .i64 p11, .int .i64 0, .int .i64 0, .int .i64 0]) ∧ w.grownBy w' none := by
  go_enter Try.func19, Try.ntmps19
  go_upto_region 1 with (fail)
  refine with3 (motive := fun w' => Code.wp Try.prog _ _ _ w') ?_
  intro w3 hA hBb hb hg _
  have hc0 : w3.cell? ⟨w.heap.size, 0, none⟩ = some (.int .u64 c0) := Blk.cell hA 0
  have hc2 : w3.cell? ⟨w.heap.size, 2, none⟩ = some (.int .i64 c2) := Blk.cell hA 2
  have hc9 : w3.cell? ⟨w.heap.size, 9, none⟩ = some (.int .i64 c9) := Blk.cell hA 9
  have hp0 : w3.cell? ⟨w.heap.size + 1, 0, none⟩ = some (.int .u64 p0) := Blk.cell hBb 0
  have hp1 : w3.cell? ⟨w.heap.size + 1, 1, none⟩ = some (.int .i64 p1) := Blk.cell hBb 1
  have hp2 : w3.cell? ⟨w.heap.size + 1, 2, none⟩ = some (.int .u64 p2) := Blk.cell hBb 2
  have hp3 : w3.cell? ⟨w.heap.size + 1, 3, none⟩ = some (.int .i64 p3) := Blk.cell hBb 3
  have hp4 : w3.cell? ⟨w.heap.size + 1, 4, none⟩ = some (.int .i64 p4) := Blk.cell hBb 4
  have hp5 : w3.cell? ⟨w.heap.size + 1, 5, none⟩ = some (.int .i64 p5) := Blk.cell hBb 5
  have hp6 : w3.cell? ⟨w.heap.size + 1, 6, none⟩ = some (.int .i64 p6) := Blk.cell hBb 6
  have hp7 : w3.cell? ⟨w.heap.size + 1, 7, none⟩ = some (.int .i64 p7) := Blk.cell hBb 7
  have hp8 : w3.cell? ⟨w.heap.size + 1, 8, none⟩ = some (.int .i64 p8) := Blk.cell hBb 8
  have hp9 : w3.cell? ⟨w.heap.size + 1, 9, none⟩ = some (.int .i64 p9) := Blk.cell hBb 9
  have hp10 : w3.cell? ⟨w.heap.size + 1, 10, none⟩ = some (.int .i64 p10) := Blk.cell hBb 10
  have hp11 : w3.cell? ⟨w.heap.size + 1, 11, none⟩ = some (.int .i64 p11) := Blk.cell hBb 11
  clear hA hBb
  have HB := hide hb
  clear hb
  go_wp2_with ((with_reducible refine gate_op (.store 46 (.tmp 8) (.tmp 37)) rfl ?_); go_must (refine wpList_store_row rfl 46 (.tmp 8) (.tmp 37) rfl (w.heap.size + 2) #[.int .i64 11, .int .i64 c2, .int .i64 p10, .int .i64 0, .int .u64 c0, .int .i64 x, .int .i64 y, .int .i64 c9, .int .i64 0, .int .u64 0, .int .i64 0, .int .i64 p9, .int .i64 p6, .int .i64 p3, .int .i64 p4, .int .i64 p5, .int .i64 p7, .int .u64 p2, .int .i64 p8, .int .i64 p11, .int .i64 0, .int .i64 0, .int .i64 0] ?q1 ?q2 46 _ HB.out (by kernel_rfl) ?q3 ?q4 ?_))
  case q1 => rfl
  case q2 => rfl
  case q3 => rfl
  case q4 => simp [Value.oneCell']
  have hb2 := Blk.setRow HB.out #[.int .i64 11, .int .i64 c2, .int .i64 p10, .int .i64 0, .int .u64 c0, .int .i64 x, .int .i64 y, .int .i64 c9, .int .i64 0, .int .u64 0, .int .i64 0, .int .i64 p9, .int .i64 p6, .int .i64 p3, .int .i64 p4, .int .i64 p5, .int .i64 p7, .int .u64 p2, .int .i64 p8, .int .i64 p11, .int .i64 0, .int .i64 0, .int .i64 0]
  have hg2 := gb_setRow hg (by omega) (b := w.heap.size + 2) #[.int .i64 11, .int .i64 c2, .int .i64 p10, .int .i64 0, .int .u64 c0, .int .i64 x, .int .i64 y, .int .i64 c9, .int .i64 0, .int .u64 0, .int .i64 0, .int .i64 p9, .int .i64 p6, .int .i64 p3, .int .i64 p4, .int .i64 p5, .int .i64 p7, .int .u64 p2, .int .i64 p8, .int .i64 p11, .int .i64 0, .int .i64 0, .int .i64 0]
  refine bodyPost_ret (v := .agg #[.int .i64 11, .int .i64 c2, .int .i64 p10, .int .i64 0, .int .u64 c0, .int .i64 x, .int .i64 y, .int .i64 c9, .int .i64 0, .int .u64 0, .int .i64 0, .int .i64 p9, .int .i64 p6, .int .i64 p3, .int .i64 p4, .int .i64 p5, .int .i64 p7, .int .u64 p2, .int .i64 p8, .int .i64 p11, .int .i64 0, .int .i64 0, .int .i64 0]) ?_ rfl ⟨rfl, hg2⟩
  exact results_cell_row rfl _ _ (w.heap.size + 2) 46 #[.int .i64 11, .int .i64 c2, .int .i64 p10, .int .i64 0, .int .u64 c0, .int .i64 x, .int .i64 y, .int .i64 c9, .int .i64 0, .int .u64 0, .int .i64 0, .int .i64 p9, .int .i64 p6, .int .i64 p3, .int .i64 p4, .int .i64 p5, .int .i64 p7, .int .u64 p2, .int .i64 p8, .int .i64 p11, .int .i64 0, .int .i64 0, .int .i64 0] (0, 0) _ rfl hb2 Try.underlying46 rfl (by kernel_rfl)
end Go.Proofs.Ytabibaamlhchbaa
