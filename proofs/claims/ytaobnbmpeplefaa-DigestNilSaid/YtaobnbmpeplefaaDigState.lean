/- digest.New, (*State).Add: their walks. -/
import Derived.Test.YtaobnbmpeplefaaDigBlock
import Derived.Deep.MidRow
namespace Go.Proofs.Ytaobnbmpeplefaa
open Go.RowKit Q Go.Proofs.YtaobnbmpeplefaaW.PrintWords Go.Proofs.YtaobnbmpeplefaaW.PrintLast Go.Proofs.YtaobnbmpeplefaaW.PrintMore
def H8 : V8 := ⟨1779033703, 3144134277, 1013904242, 2773480762, 1359893119, 2600822924, 528734635, 1541459225⟩
def V8.cells (x : V8) : Array Value := #[.int .u32 x.a, .int .u32 x.b, .int .u32 x.c, .int .u32 x.d, .int .u32 x.e, .int .u32 x.f, .int .u32 x.g, .int .u32 x.h]
/-- The eight words of a list. -/
def v8 (l : List Int) : V8 := ⟨l.getD 0 0, l.getD 1 0, l.getD 2 0, l.getD 3 0, l.getD 4 0, l.getD 5 0, l.getD 6 0, l.getD 7 0⟩
theorem v8_l (l : List Int) (h : l.length = 8) : (v8 l).l = l := by
  match l, h with
  | [a, b, c, d, e, f, g, i], _ => rfl
theorem l_cells (x : V8) : arr .u32 x.l = x.cells := rfl
/-- The state behind one more block. -/
def bv (x : V8) (b : ByteArray) : V8 := v8 (blk KL x b)
theorem blk_len (K : List Int) (x : V8) (b : ByteArray) : (blk K x b).length = 8 := by unfold blk; rw [ad_len]; rfl
theorem bv_l (x : V8) (b : ByteArray) : (bv x b).l = blk KL x b := v8_l _ (blk_len _ _ _)
theorem block_any (x : V8) (b : ByteArray) (hb : b.size = 64) (w : World) :
    Calls Try.prog 22 #[.agg x.cells, .string b] w fun e w' => e = .returned (.agg (bv x b).cells) ∧ Below w.heap.size w w' := by
  have := block_calls x.a x.b x.c x.d x.e x.f x.g x.h b hb _ (Lib.hid rfl) w
  rw [← bv_l] at this
  exact this
/-- The state behind the first k blocks of a text. -/
def fd (x : V8) (t : ByteArray) : Nat → V8
  | 0 => x
  | k + 1 => bv (fd x t k) (t.extract (64 * k) (64 * k + 64))
/-- Block g holds a state: eight words, the rest, the size. -/
def DSt (w : World) (g : Nat) (x : V8) (r : ByteArray) (n : Int) : Prop := w.heap[g]? = some (.cells #[.int .u32 x.a, .int .u32 x.b, .int .u32 x.c, .int .u32 x.d, .int .u32 x.e, .int .u32 x.f, .int .u32 x.g, .int .u32 x.h, .string r, .int .i64 n] 49 (0, 0))
theorem DSt.lt {w : World} {g : Nat} {x : V8} {r : ByteArray} {n : Int} (h : DSt w g x r n) : g < w.heap.size := (Array.getElem?_eq_some_iff.1 h).1
theorem DSt.c8 {w : World} {g : Nat} {x : V8} {r : ByteArray} {n : Int} (h : DSt w g x r n) : w.cell? ⟨g, 8, none⟩ = some (.string r) := by rw [Lib.cell_of_heap h]; rfl
theorem DSt.c9 {w : World} {g : Nat} {x : V8} {r : ByteArray} {n : Int} (h : DSt w g x r n) : w.cell? ⟨g, 9, none⟩ = some (.int .i64 n) := by rw [Lib.cell_of_heap h]; rfl
theorem DSt.free {w : World} {g : Nat} {x : V8} {r : ByteArray} {n : Int} (h : DSt w g x r n) (i : Nat) : w.frozen? ⟨g, i, none⟩ = false := Lib.frozen_of_heap h i
theorem DSt.set8 {w : World} {g : Nat} {x : V8} {r : ByteArray} {n : Int} (h : DSt w g x r n) (r' : ByteArray) : DSt (w.setCell ⟨g, 8, none⟩ (.string r')) g x r' n := by
  have : w.heap[g]? = _ := h
  simp [DSt, World.setCell, Array.getElem?_modify, this]
theorem DSt.set9 {w : World} {g : Nat} {x : V8} {r : ByteArray} {n : Int} (h : DSt w g x r n) (n' : Int) : DSt (w.setCell ⟨g, 9, none⟩ (.int .i64 n')) g x r n' := by
  have : w.heap[g]? = _ := h
  simp [DSt, World.setCell, Array.getElem?_modify, this]
theorem DSt.keep {w w' : World} {g : Nat} {x : V8} {r : ByteArray} {n : Int} (h : DSt w g x r n) (hb : Below w.heap.size w w') : DSt w' g x r n := (hb.block g h.lt).trans h
theorem DSt.range {w : World} {g : Nat} {x : V8} {r : ByteArray} {n : Int} (h : DSt w g x r n) : w.rangeAt g 0 x.cells.toList := by
  have := World.rangeAt_of_block h 0 8
  exact this
theorem DSt.there {w : World} {g : Nat} {x : V8} {r : ByteArray} {n : Int} (h : DSt w g x r n) : w.there g 0 8 := by
  intro j hj
  refine ⟨?_, h.free _⟩
  rw [Lib.cell_of_heap h, Nat.zero_add, List.getElem?_toArray, List.getElem?_eq_getElem (by simp; omega)]
  rfl
theorem DSt.setAll {w : World} {g : Nat} {x : V8} {r : ByteArray} {n : Int} (h : DSt w g x r n) (y : V8) : DSt (w.setCells g 0 y.cells.toList) g y r n := by
  have : w.heap[g]? = _ := h
  simp [DSt, V8.cells, World.setCells, World.setCell, Array.getElem?_modify, this]
theorem Bf.setCell {B g : Nat} {w w' : World} (h : Bf B g w w') (i : Nat) (v : Value) : Bf B g w (w'.setCell ⟨g, i, none⟩ v) :=
  h.trans ⟨rfl, rfl, rfl, by simp [World.setCell], fun k _ hk => Below.heap_setCell _ _ _ _ (fun e => hk e)⟩
theorem setCells_other (g : Nat) : ∀ (vs : List Value) (o : Nat) (w : World) (k : Nat), k ≠ g → (w.setCells g o vs).heap[k]? = w.heap[k]? ∧ (w.setCells g o vs).heap.size = w.heap.size ∧ (w.setCells g o vs).os = w.os ∧ (w.setCells g o vs).tape = w.tape ∧ (w.setCells g o vs).output = w.output
  | [], _, _, _, _ => ⟨rfl, rfl, rfl, rfl, rfl⟩
  | v :: vs, o, w, k, hk => by
    have := setCells_other g vs (o + 1) (w.setCell ⟨g, o, none⟩ v) k hk
    refine ⟨this.1.trans (Below.heap_setCell _ _ _ _ (fun e => hk e)), this.2.1.trans (by simp [World.setCell]), this.2.2.1, this.2.2.2.1, this.2.2.2.2⟩
theorem Bf.setCells {B g : Nat} {w w' : World} (h : Bf B g w w') (o : Nat) (vs : List Value) : Bf B g w (w'.setCells g o vs) := by
  have h0 := setCells_other g vs o w' (g + 1) (by omega)
  exact h.trans ⟨h0.2.2.1, h0.2.2.2.1, h0.2.2.2.2, by rw [h0.2.1]; exact Nat.le_refl _, fun k _ hk => (setCells_other g vs o w' k hk).1⟩
set_option maxRecDepth 100000 in
set_option maxHeartbeats 400000 in
theorem dnew_calls (w : World) : Calls Try.prog 14 #[] w fun e w' => ∃ g, e = .returned (.pointer (some ⟨g, 0, none⟩)) ∧ DSt w' g H8 ⟨#[]⟩ 0 ∧ w.heap.size ≤ g ∧ Below w.heap.size w w' := by
  go_enter Try.func14, Try.ntmps14
  go_wp2_with fail
  have hh := begin_calls w
  refine Calls.mono hh ?_
  clear hh
  rintro e w1 ⟨rfl, b1⟩
  have HB := Lib.hid b1
  clear b1
  go_wp2_with fail
  go_ret
  refine ⟨w1.heap.size, rfl, ?_, HB.out.size, below_alloc HB.out _⟩
  unfold DSt
  rw [heap_alloc_new]
  simp [arr, H0, H8]
end Go.Proofs.Ytaobnbmpeplefaa
