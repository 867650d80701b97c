/- What came in, opened: a reading of a value of a type is a plain value whose cells lie in the world; for whole numbers, bools, strings, slices of whatever opens. -/
import Derived.Test.YtoakibpgmjebeaaWWords
import Derived.Deep.Slices
import Derived.ChangeArms
import Derived.DataReads
import Derived.WideShapes
namespace Go.Proofs.Ytoakibpgmjebeaa
open Go.RowKit Go.Proofs.YtoakibpgmjebeaaW.PrintWords
/-- Every reading of type t is a value of kind d, with q. -/
def Opens {α : Type} (P : Program) (t : TypeId) (d : Kd α) (q : α → Prop) : Prop :=
  ∀ (H : Type) (enc : TypeId × Value → H) (w : World) (base : Nat) (spare : Nat → Bool) (held : Bool) (fuel : Nat) (cs : List Value) (x : DataW H × List MemPlace),
    DataW.trod enc P w base spare held fuel t cs = some x → ∃ a : α, d.K w a cs ∧ q a
theorem opens_int {P : Program} {t : TypeId} {k : IntKind} (ht : P.underlying t = some (.int k)) : Opens P t (Kd.int k) (fun n => (Lit.int k n).wf = true) := by
  intro H enc w base spare held fuel cs x h
  obtain ⟨n, rfl, _, hw⟩ := DataW.trod_int ht h
  exact ⟨n, rfl, hw⟩
theorem opens_bool {P : Program} {t : TypeId} (ht : P.underlying t = some .bool) : Opens P t Kd.bool (fun _ => True) := by
  intro H enc w base spare held fuel cs x h
  obtain ⟨b, rfl, _⟩ := DataW.trod_bool ht h
  exact ⟨b, rfl, trivial⟩
theorem opens_string {P : Program} {t : TypeId} (ht : P.underlying t = some .string) : Opens P t Kd.string (fun s => s.size ≤ maxLen) := by
  intro H enc w base spare held fuel cs x h
  obtain ⟨s, rfl, _, hs⟩ := DataW.trod_string ht h
  exact ⟨s, rfl, hs⟩
theorem cells_at {w : World} {base : Nat} {a : Addr} {n : Nat} {cs : List Value} (h : w.cells? base a n = some cs) (i : Nat) (u : Value) (hu : cs[i]? = some u) : w.cell? (a.add i) = some u := by
  obtain ⟨_, hl, hc⟩ := World.cells?_some h
  have hi : i < n := by
    rcases Nat.lt_or_ge i n with h1 | h1
    · exact h1
    · rw [List.getElem?_eq_none (by omega)] at hu; cases hu
  rw [hc i hi, hu]
theorem opens_slice {α : Type} [Inhabited α] {P : Program} {t e : TypeId} {d : Kd α} {q : α → Prop} (ht : P.underlying t = some (.slice e)) (hd : d.sz = P.cellsOf e) (h : Opens P e d q) :
    Opens P t (Kd.slice e d) (fun l => ∀ x ∈ l, q x) := by
  intro H enc w base spare held fuel cs x hx
  rcases Deep.open_slice ht hx with ⟨rfl, _⟩ | ⟨a, len, cap, m, n, D, Pl, rfl, _, hl, hcap, hm, _, hel⟩
  · exact ⟨[], ⟨none, 0, rfl, Nat.le_refl _, rfl, by simp, fun h0 => absurd h0 (by simp)⟩, fun x hx => by cases hx⟩
  · have hlm : len ≤ m := by rw [hm]; split <;> omega
    have hel' : ∀ i, i < len → ∃ p : α × List Value, w.cells? base (a.add (i * P.cellsOf e)) (P.cellsOf e) = some p.2 ∧ d.K w p.1 p.2 ∧ q p.1 := by
      intro i hi
      obtain ⟨cs', hc, ht'⟩ := hel i (by omega)
      obtain ⟨y, hy, hq⟩ := h H enc w base spare held n cs' _ ht'
      exact ⟨(y, cs'), hc, hy, hq⟩
    obtain ⟨f, hf⟩ := Deep.choose_lt hel'
    refine ⟨(List.range len).map fun i => (f i).1, ⟨some a, cap, by simp, by simpa using hl, by simp, ?_, fun _ => ⟨a, rfl, ?_⟩⟩, ?_⟩
    · rw [List.length_map, List.length_range]; unfold maxLen at hcap; omega
    · intro j p hj
      rw [List.getElem?_map] at hj
      have hjl : j < len := by
        rcases Nat.lt_or_ge j len with h1 | h1
        · exact h1
        · rw [List.getElem?_eq_none (by simpa using h1)] at hj; cases hj
      rw [List.getElem?_range hjl] at hj
      simp only [Option.map_some, Option.some.injEq] at hj
      subst hj
      obtain ⟨hc, hK, _⟩ := hf j hjl
      refine ⟨(f j).2, d.K_len hK, hK, fun i u hu => ?_⟩
      have := cells_at hc i u hu
      rw [Deep.add_add] at this
      rw [hd]
      exact this
    · intro x hx
      rw [List.mem_map] at hx
      obtain ⟨i, hi, rfl⟩ := hx
      exact (hf i (List.mem_range.1 hi)).2.2
/-- A struct's fields, each with its own reading. -/
theorem field_of {H : Type} {enc : TypeId × Value → H} {P : Program} {w : World} {base : Nat} {spare : Nat → Bool} {held : Bool} {fuel : Nat} {t : TypeId} {cs : List Value} {x : DataW H × List MemPlace} {fs : Array Field}
    (ht : P.underlying t = some (.struct fs)) (h : DataW.trod enc P w base spare held fuel t cs = some x) :
    cs.length = P.cellsOf t ∧ ∃ n, ∀ (i : Nat) (f : Field), fs[i]? = some f → ∃ y, DataW.trod enc P w base spare held n f.type ((cs.drop f.offset).take (P.cellsOf f.type)) = some y := by
  obtain ⟨xs, n, _, _, hl, hx, hf⟩ := DataW.trod_struct ht h
  refine ⟨hl, n, fun i f hi => ?_⟩
  have hi' : i < xs.length := by
    rcases Nat.lt_or_ge i fs.size with h1 | h1
    · omega
    · rw [Array.getElem?_eq_none h1] at hi; cases hi
  exact ⟨xs[i], by rw [hf i f hi, List.getElem?_eq_getElem hi']⟩
theorem arr_of_list {cs : Array Value} {l : List Value} (h : cs.toList = l) : cs = l.toArray := by rw [← h]
theorem list1 {α : Type} {l : List α} (h : l.length = 1) : ∃ a, l = [a] := by match l, h with | [a], _ => exact ⟨a, rfl⟩
theorem list_succ {α : Type} {l : List α} {n : Nat} (h : l.length = n + 1) : ∃ a m, l = a :: m ∧ m.length = n := by
  match l, h with
  | a :: m, h => exact ⟨a, m, rfl, by simpa using h⟩
theorem list_zero {α : Type} {l : List α} (h : l.length = 0) : l = [] := List.eq_nil_of_length_eq_zero h
end Go.Proofs.Ytoakibpgmjebeaa
