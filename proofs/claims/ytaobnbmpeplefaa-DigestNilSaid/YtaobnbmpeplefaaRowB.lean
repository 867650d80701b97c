/- A row of bytes that the call owns and whose spare room is not frozen (what '[]byte(s)' makes, too): appending to it, reading it, a string of it. -/
import Derived.Test.YtaobnbmpeplefaaProg
import Derived.WalkKit
import Derived.Lib.Hide
import Derived.Lib.FrozenHead2
import Derived.Lib.ConvBytes
import Derived.Laws.BytesArg
import Derived.Laws.BytesString
import Derived.Laws.IdiomStrings
import Derived.Below
namespace Go.Proofs.Ytaobnbmpeplefaa
open Go.RowKit
section
variable {P : Program}
/-- The slice value v has the bytes l, in a row at or above B. -/
def RowB (B : Nat) (E : TypeId) (v : Value) (l : List UInt8) (w : World) : Prop :=
  (v = .slice none 0 0 ∧ l = []) ∨
  ∃ g cap cur fz, v = .slice (some ⟨g, 0, none⟩) l.length cap ∧ B ≤ g ∧ w.heap[g]? = some (.cells cur E fz) ∧ (∀ i, l.length ≤ i → i < cap → fz.1 ≤ i → fz.2 ≤ i) ∧ l.length ≤ cap ∧ cap ≤ maxLen ∧ cur.size = cap ∧ cur.toList.take l.length = Lib.byteCells l
theorem RowB.lt {B : Nat} {E : TypeId} {v : Value} {l : List UInt8} {w : World} (h : RowB B E v l w) : ∀ k, v.ownBlock = some k → B ≤ k ∧ k < w.heap.size := by
  intro k hk
  rcases h with ⟨rfl, _⟩ | ⟨g, cap, cur, fz, rfl, hb, hg, _⟩
  · simp [Value.ownBlock] at hk
  · simp [Value.ownBlock] at hk
    subst hk
    exact ⟨hb, (Array.getElem?_eq_some_iff.1 hg).1⟩
theorem RowB.keep {B : Nat} {E : TypeId} {v : Value} {l : List UInt8} {w w' : World} (h : RowB B E v l w) (hk : ∀ g, v.ownBlock = some g → w'.heap[g]? = w.heap[g]?) : RowB B E v l w' := by
  rcases h with h | ⟨g, cap, cur, fz, rfl, hb, hg, rest⟩
  · exact .inl h
  · exact .inr ⟨g, cap, cur, fz, rfl, hb, (hk g rfl).trans hg, rest⟩
theorem RowB.below {B : Nat} {E : TypeId} {v : Value} {l : List UInt8} {w w' : World} (h : RowB B E v l w) (hb : Below w.heap.size w w') : RowB B E v l w' :=
  h.keep (fun g hg => hb.block g (h.lt g hg).2)
theorem RowB.alloc {B : Nat} {E : TypeId} {v : Value} {l : List UInt8} {w : World} (h : RowB B E v l w) (o : Obj) : RowB B E v l (w.alloc o) :=
  h.keep (fun g hg => Lib.alloc_old w o g (h.lt g hg).2)
theorem RowB.grown {B : Nat} {E : TypeId} {v : Value} {l : List UInt8} {w w' : World} {row : Option Nat} (h : RowB B E v l w) (hg : w.grownBy w' row) (hne : ∀ g, v.ownBlock = some g → some g ≠ row) : RowB B E v l w' :=
  h.keep (fun g hk => hg.block g (h.lt g hk).2 (hne g hk))
theorem RowB.raise {B B' : Nat} {E : TypeId} {v : Value} {l : List UInt8} {w : World} (h : RowB B E v l w) (hB : B' ≤ B) : RowB B' E v l w := by
  rcases h with h | ⟨g, cap, cur, fz, rfl, hb, hg, rest⟩
  · exact .inl h
  · exact .inr ⟨g, cap, cur, fz, rfl, by omega, hg, rest⟩
theorem RowB.cells {B : Nat} {E : TypeId} {v : Value} {l : List UInt8} {w : World} (h : RowB B E v l w) {g : Nat} (hg : v.ownBlock = some g) : ∀ j x, l[j]? = some x → w.cell? ⟨g, j, none⟩ = some (.int .u8 (x.toNat : Int)) := by
  intro j x hx
  rcases h with ⟨rfl, _⟩ | ⟨g', cap, cur, fz, rfl, _, hgg, _, _, _, _, htake⟩
  · simp [Value.ownBlock] at hg
  · simp [Value.ownBlock] at hg
    subst hg
    have hu : (Lib.byteCells l)[j]? = some (.int .u8 (x.toNat : Int)) := by simp [Lib.byteCells, hx]
    rw [cell_of_row w g' j cur E fz hgg]
    rw [← htake, List.getElem?_take] at hu
    split at hu
    · simpa using hu
    · cases hu
theorem RowB.ne {B : Nat} {E : TypeId} {v : Value} {l : List UInt8} {w : World} (h : RowB B E v l w) (h0 : l ≠ []) : ∃ g cap, v = .slice (some ⟨g, 0, none⟩) l.length cap ∧ B ≤ g ∧ g < w.heap.size ∧ l.length ≤ cap ∧ cap ≤ maxLen := by
  rcases h with ⟨_, h⟩ | ⟨g, cap, cur, fz, rfl, hb, hgg, _, h1, h2, _⟩
  · exact absurd h h0
  · exact ⟨g, cap, rfl, hb, (Array.getElem?_eq_some_iff.1 hgg).1, h1, h2⟩
theorem byteCells_one (l : List UInt8) : ∀ u ∈ Lib.byteCells l, u.oneCell' = true := by
  intro u hu
  simp only [Lib.byteCells, List.mem_map] at hu
  obtain ⟨x, _, rfl⟩ := hu
  rfl
/-- '[]byte(s)'. -/
theorem RowB.bytes (w : World) (E : TypeId) (s : ByteArray) (hs : s.size ≤ maxLen) : RowB w.heap.size E (.slice (some ⟨w.heap.size, 0, none⟩) s.size (grownCap w s.size 0 E)) s.data.toList (Lib.bytesWorld w E s) := by
  have hge := grownCap_ge w s.size 0 E
  have hle := grownCap_le_maxLen w s.size 0 E hs
  have hl : s.data.toList.length = s.size := Array.length_toList
  have hc : (Lib.bytesCells w E s).size = grownCap w s.size 0 E := by
    unfold Lib.bytesCells
    rw [Array.size_append, Array.size_map, Array.size_replicate]
    have : s.data.size = s.size := rfl
    omega
  refine .inr ⟨w.heap.size, _, _, _, by rw [hl], Nat.le_refl _, Lib.bytesWorld_at_new w E s, fun i h1 h2 h3 => ?_, by rw [hl]; exact hge, hle, hc, ?_⟩
  · rw [hc] at h3; simp only at h3; omega
  · unfold Lib.bytesCells Lib.byteCells
    rw [Array.toList_append, Array.toList_map]
    rw [List.take_append_of_le_length (by simp)]
    rw [List.take_of_length_le (by simp)]
theorem RowB.bytesBelow (w : World) (E : TypeId) (s : ByteArray) : Below w.heap.size w (Lib.bytesWorld w E s) :=
  ⟨rfl, rfl, rfl, by rw [Lib.bytesWorld_size]; omega, fun i hi => Lib.bytesWorld_at_old _ _ _ _ hi⟩
theorem run_storeCells_free (g : Nat) (t : TypeId) (fz : Nat × Nat) : ∀ (vs : List Value) (o i : Nat) (cur : Array Value) (w : World), w.heap[g]? = some (.cells cur t fz) → (∀ k, o + i ≤ k → k < o + i + vs.length → fz.1 ≤ k → fz.2 ≤ k) → o + i + vs.length ≤ cur.size → (∀ v ∈ vs, v.oneCell' = true) →
    (storeCells ⟨g, o, none⟩ vs i).run P w = .ok () (w.setRow g (cur.toList.take (o + i) ++ vs ++ cur.toList.drop (o + i + vs.length)).toArray)
  | [], o, i, cur, w, hg, _, _, _ => by
    simp only [storeCells, List.append_nil, List.length_nil, Nat.add_zero, List.take_append_drop, Array.toArray_toList]
    rw [setRow_self w g cur t fz hg]
    rfl
  | v :: rest, o, i, cur, w, hg, hfz, hl, h1 => by
    have hi : o + i < cur.size := by simp at hl; omega
    have hadd : (⟨g, o, none⟩ : Addr).add i = ⟨g, o + i, none⟩ := by unfold Addr.add; split <;> simp_all
    have hcell : w.cell? ⟨g, o + i, none⟩ = some cur[o + i] := by simp [World.cell?, hg, hi]
    have hfro : w.frozen? ⟨g, o + i, none⟩ = false := by
      have := hfz (o + i) (Nat.le_refl _) (by simp)
      obtain ⟨lo, hi'⟩ := fz
      simp only [World.frozen?, hg, Bool.and_eq_false_iff, decide_eq_false_iff_not]
      simp only at this
      omega
    have hst : (store ((⟨g, o, none⟩ : Addr).add i) v).run P w = .ok () (w.setRow g (cur.setIfInBounds (o + i) v)) := by
      rw [hadd, run_store P w _ v _ (h1 v (by simp)), hcell]
      simp [hfro, setCell_eq_setRow w g (o + i) cur t fz v hg]
    have ih := run_storeCells_free g t fz rest o (i + 1) (cur.setIfInBounds (o + i) v) (w.setRow g (cur.setIfInBounds (o + i) v)) (setRow_heap w g cur _ t _ hg) (fun k hk1 hk2 => hfz k (by omega) (by simp at hk2 ⊢; omega)) (by simp at hl ⊢; omega) (fun x hx => h1 x (by simp [hx]))
    simp only [storeCells, Sem.run_bind, hst, Result.andThen_ok, ih, setRow_setRow]
    congr 3
    have e := list_seg_step cur.toList (o + i) v rest (by simp at hl ⊢; omega)
    simpa [Array.toList_setIfInBounds, Nat.add_assoc] using e
/-- append(v, m...), m the bytes of a slice. -/
theorem run_append_rowB (w : World) (B : Nat) (t ty E : TypeId) (i : TypeInfo) (ht : P.underlying t = some (.slice E)) (hi : P.info? E = some i) (hz : i.zero = some (.int .u8 0)) (hsize : i.size = 1) (hby : i.bytes = 1)
    (v : Value) (l m : List UInt8) (hown : RowB B E v l w) (a : Addr) (c : Nat) (hnews : ∀ j x, m[j]? = some x → w.cell? (a.add j) = some (.int .u8 (x.toNat : Int)))
    (hlen : l.length + m.length ≤ 140737488355328) (hbase : B ≤ w.heap.size) :
    ∃ v' w', (Builtin.append_ #[t, t] ty #[v, .slice (some a) m.length c]).run P w = .ok v' w' ∧ RowB B E v' (l ++ m) w' ∧ w.grownBy w' v.ownBlock := by
  have hm63 : l.length + m.length ≤ maxLen := by unfold maxLen; omega
  have hnews' : ∀ j u, (Lib.byteCells m)[j]? = some u → w.cell? (a.add j) = some u := by
    intro j u hj
    simp only [Lib.byteCells, List.getElem?_map, Option.map_eq_some_iff] at hj
    obtain ⟨x, hx, rfl⟩ := hj
    exact hnews j x hx
  rcases hown with ⟨rfl, rfl⟩ | ⟨g, cap, cur, fz, rfl, hbg, hg, hfz, hnc, hcm, hcs, htake⟩
  · obtain ⟨v', w', r1, r2, r3, _⟩ := run_append_own (P := P) w B t ty E i (.int .u8 0) 1 1 ht hi hz hsize hby rfl (by decide) (.slice none 0 0) 0 [] ⟨rfl, .inl ⟨rfl, rfl⟩⟩ a m.length c (Lib.byteCells m) (by rw [Lib.byteCells_length, Nat.mul_one]) hnews' (byteCells_one m) (by simpa using hm63) (by simp at hlen; omega) hbase
    refine ⟨v', w', r1, ?_, r3⟩
    rcases r2.2 with ⟨rfl, h0⟩ | ⟨g, cap, cur, hv, hb, hg, hnc, hcm, hcs, htk⟩
    · exact .inl ⟨rfl, List.eq_nil_of_length_eq_zero (by simpa using h0)⟩
    · refine .inr ⟨g, cap, cur, (0, 0), by simpa using hv, hb, hg, fun _ _ _ _ => by omega, by simpa using hnc, hcm, by simpa using hcs, ?_⟩
      simpa using htk
  · have hsmall : l.length + m.length ≤ 9223372036854775807 := by omega
    by_cases hroom : l.length + m.length ≤ cap
    · have hf := run_firstCells_some (P := P) w 1 m.length a m.length c (Lib.byteCells m) (by rw [Lib.byteCells_length, Nat.mul_one]) hnews'
      have hst := run_storeCells_free (P := P) g E fz (Lib.byteCells m) (l.length * 1) 0 cur w hg (fun k hk1 hk2 => hfz k (by omega) (by rw [Lib.byteCells_length] at hk2; omega)) (by rw [Lib.byteCells_length]; omega) (byteCells_one m)
      simp only [Nat.add_zero, Nat.mul_one] at hst hf
      have hr : (Builtin.append_ #[t, t] ty #[.slice (some ⟨g, 0, none⟩) l.length cap, .slice (some a) m.length c]).run P w = .ok (.slice (some ⟨g, 0, none⟩) (l.length + m.length) cap) (w.setRow g (cur.toList.take l.length ++ Lib.byteCells m ++ cur.toList.drop (l.length + (Lib.byteCells m).length)).toArray) := by
        simp [Builtin.append_, run_underlying ht, sizeOf, typeInfo, hi, hsize, Builtin.lenOf, hroom, hf, Addr.add_lit, hst]
      refine ⟨_, _, hr, .inr ⟨g, cap, _, fz, by rw [List.length_append], hbg, setRow_heap w g cur _ E _ hg, fun k hk1 hk2 => hfz k (by rw [List.length_append] at hk1; omega) hk2, by rw [List.length_append]; exact hroom, hcm, ?_, ?_⟩, ⟨rfl, rfl, rfl, by simp, fun k _ hk => setRow_other w g k _ (fun e => hk (by simp [Value.ownBlock, e]))⟩⟩
      · simp only [List.size_toArray, List.length_append, List.length_take, List.length_drop, Array.length_toList, Lib.byteCells_length]
        omega
      · rw [htake, Lib.byteCells_append]
        have : (l ++ m).length = (Lib.byteCells l ++ Lib.byteCells m).length := by simp [Lib.byteCells_length]
        rw [this]
        exact List.take_left
    · have holds : ∀ j u, (Lib.byteCells l)[j]? = some u → w.cell? ((⟨g, 0, none⟩ : Addr).add j) = some u := by
        intro j u hj
        simp only [Lib.byteCells, List.getElem?_map, Option.map_eq_some_iff] at hj
        obtain ⟨x, hx, rfl⟩ := hj
        have hadd : (⟨g, 0, none⟩ : Addr).add j = ⟨g, j, none⟩ := by unfold Addr.add; split <;> simp_all
        rw [hadd]
        exact RowB.cells (B := B) (E := E) (v := .slice (some ⟨g, 0, none⟩) l.length cap) (.inr ⟨g, cap, cur, fz, rfl, hbg, hg, hfz, hnc, hcm, hcs, htake⟩) rfl j x hx
      have hr := run_append_grow (P := P) w t ty E i (.int .u8 0) ht hi hz ⟨g, 0, none⟩ l.length cap (Lib.byteCells l) (by rw [Lib.byteCells_length, hsize, Nat.mul_one]) holds a m.length c (Lib.byteCells m) (by rw [Lib.byteCells_length, hsize, Nat.mul_one]) hnews' (by omega) (by omega) (growslice_fits (by omega) (by rw [hby]; omega))
      have hge := grownCap_ge w (l.length + m.length) cap E
      have hcm2 : grownCap w (l.length + m.length) cap E ≤ maxLen := grownCap_le_maxLen w (l.length + m.length) cap E hm63
      refine ⟨_, _, hr, .inr ⟨w.heap.size, _, _, (0, 0), by rw [List.length_append], hbase, heap_alloc_new w.drew _, fun _ _ _ _ => by omega, by rw [List.length_append]; exact hge, hcm2, ?_, ?_⟩, ⟨rfl, rfl, rfl, by simp, fun k hk _ => Lib.alloc_old w.drew _ k hk⟩⟩
      · simp only [Array.size_append, List.size_toArray, size_zeroCells, Lib.byteCells_length]
        have : (Value.int IntKind.u8 0).cells.size = 1 := rfl
        rw [this]
        omega
      · simp only [Array.toList_append, List.append_assoc]
        rw [← List.append_assoc, ← Lib.byteCells_append]
        have : (l ++ m).length = (Lib.byteCells (l ++ m)).length := by rw [Lib.byteCells_length]
        rw [this]
        exact List.take_left
theorem wpList_append_rowB {ops : Array Oper} {rest : List Oper} {o : Oper} {a : Act} {w : World} {Q : Exit → Act → World → Prop} (hgd : o.guard = none) (s x : Operand) (t : TypeId)
    (ho : o.op = .call { callee := .builtin .append, args := #[s, x], argTypes := #[t, t] })
    (B : Nat) (E : TypeId) (i : TypeInfo) (ht : P.underlying t = some (.slice E)) (hi : P.info? E = some i) (hz : i.zero = some (.int .u8 0)) (hsize : i.size = 1) (hby : i.bytes = 1)
    (v : Value) (l m : List UInt8) (hs : a.eval s = v) (hown : RowB B E v l w) (ad : Addr) (c : Nat) (hx : a.eval x = .slice (some ad) m.length c) (hnews : ∀ j x, m[j]? = some x → w.cell? (ad.add j) = some (.int .u8 (x.toNat : Int)))
    (hlen : l.length + m.length ≤ 140737488355328) (hbase : B ≤ w.heap.size)
    (h : ∀ v' w', RowB B E v' (l ++ m) w' → w.grownBy w' v.ownBlock → wpList P ops Q rest (a.put o.dst v') w') : wpList P ops Q (o :: rest) a w := by
  refine wpList_plain hgd fun K hK => ?_
  obtain ⟨v', w', hr, h2, h3⟩ := run_append_rowB (P := P) w B t o.type E i ht hi hz hsize hby v l m hown ad c hnews hlen hbase
  unfold Oper.wp execOp
  simp only [ho, resolve, invoke, builtin, Sem.run_bind, Sem.run_pure, Result.andThen_ok, List.map_toArray, List.map_cons, List.map_nil, hs, hx, hr]
  exact hK _ _ (h v' w' h2 h3)
/-- 'string(b)' of a slice whose cells hold the bytes l. -/
theorem run_string_bytes (w : World) (src dst E : TypeId) (hs : P.underlying src = some (.slice E)) (he : P.underlying E = some (.int .u8)) (hd : P.underlying dst = some .string) (g off cap : Nat) (l : List UInt8)
    (hc : ∀ j x, l[j]? = some x → w.cell? ⟨g, off + j, none⟩ = some (.int .u8 (x.toNat : Int))) :
    (convert src dst (.slice (some ⟨g, off, none⟩) l.length cap)).run P w = .ok (.string ⟨l.toArray⟩) w := by
  rw [run_convert_bytes_arg (P := P) w src E hs he g off l.length cap (l.map fun x => (x.toNat : Int)) (by simp) (fun i hi => by
    rw [hc i l[i] (List.getElem?_eq_getElem hi)]
    simp [List.getD_eq_getElem?_getD, List.getElem?_map, List.getElem?_eq_getElem hi]) dst hd]
  congr 3
  unfold strOfNums
  rw [List.map_map]
  exact congrArg (fun z : List UInt8 => (⟨z.toArray⟩ : ByteArray)) ((List.map_congr_left (fun x _ => by simp)).trans (List.map_id l))
end
end Go.Proofs.Ytaobnbmpeplefaa
