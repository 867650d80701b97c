/- sector.Write: its walk. -/
import Derived.Test.YtoakibpgmjebeaaSecNumbers
import Derived.Test.YtoakibpgmjebeaaSecRight
import Derived.Test.YtoakibpgmjebeaaSeal
namespace Go.Proofs.Ytoakibpgmjebeaa
open Go.RowKit Q Go.Proofs.YtoakibpgmjebeaaW.PrintWords Go.Proofs.YtoakibpgmjebeaaW.PrintLast Go.Proofs.YtoakibpgmjebeaaW.PrintMore
/-- A header's text, not sealed yet. -/
def secT (v g i d s : Nat) (t : List UInt8) : List UInt8 := [83, 71] ++ (enc v ++ enc g ++ enc i ++ enc d ++ enc s) ++ txt t
theorem encK5 (v g i d s : Nat) : encK [v, g, i, d, s] 5 = enc v ++ enc g ++ enc i ++ enc d ++ enc s := by
  simp [encK]
theorem txt_len (t : List UInt8) (h : t.length ≤ 64) : (txt t).length ≤ 72 := by
  unfold txt
  rw [List.length_append]
  have := enc_len8 (m := t.length) (by omega)
  omega
theorem chk_ok {v g i d s : Int} {n : Nat} (h : chk v g i d s n = 0) : (0 ≤ v ∧ v ≤ 1099511627776 ∧ 0 ≤ g ∧ g ≤ 1099511627776 ∧ 0 ≤ i ∧ i ≤ 8 ∧ 0 ≤ d ∧ d ≤ 11 ∧ 0 ≤ s ∧ s ≤ 47) ∧ n ≤ 64 := by
  unfold chk at h
  split at h
  · rename_i hh
    refine ⟨hh, ?_⟩
    split at h
    · assumption
    · cases h
  · cases h
abbrev Rng (v g i d s : Int) : Prop := 0 ≤ v ∧ v ≤ 1099511627776 ∧ 0 ≤ g ∧ g ≤ 1099511627776 ∧ 0 ≤ i ∧ i ≤ 8 ∧ 0 ≤ d ∧ d ≤ 11 ∧ 0 ≤ s ∧ s ≤ 47
theorem five_lt {v g i d s : Int} (h : Rng v g i d s) : ∀ k, [v.toNat, g.toNat, i.toNat, d.toNat, s.toNat].getD k 0 < 2 ^ 56 := by
  intro k
  obtain ⟨h1, h2, h3, h4, h5, h6, h7, h8, h9, h10⟩ := h
  match k with
  | 0 => show v.toNat < 2 ^ 56; omega
  | 1 => show g.toNat < 2 ^ 56; omega
  | 2 => show i.toNat < 2 ^ 56; omega
  | 3 => show d.toNat < 2 ^ 56; omega
  | 4 => show s.toNat < 2 ^ 56; omega
  | k + 5 => show 0 < 2 ^ 56; decide
theorem five (v g i d s : Int) (w : World) (h : Rng v g i d s) : ∀ j, j < 5 → (w.alloc (.cells #[.int .i64 v, .int .i64 g, .int .i64 i, .int .i64 d, .int .i64 s] 3)).cell? ⟨w.heap.size, j, none⟩ = some (.int .i64 ([v.toNat, g.toNat, i.toNat, d.toNat, s.toNat].getD j 0 : Nat)) := by
  intro j hj
  obtain ⟨h1, h2, h3, h4, h5, h6, h7, h8, h9, h10⟩ := h
  rw [Lib.cell_of_heap (heap_alloc_new w _)]
  match j, hj with
  | 0, _ => show some (Value.int .i64 v) = some (.int .i64 (v.toNat : Int)); rw [Int.toNat_of_nonneg h1]
  | 1, _ => show some (Value.int .i64 g) = some (.int .i64 (g.toNat : Int)); rw [Int.toNat_of_nonneg h3]
  | 2, _ => show some (Value.int .i64 i) = some (.int .i64 (i.toNat : Int)); rw [Int.toNat_of_nonneg h5]
  | 3, _ => show some (Value.int .i64 d) = some (.int .i64 (d.toNat : Int)); rw [Int.toNat_of_nonneg h7]
  | 4, _ => show some (Value.int .i64 s) = some (.int .i64 (s.toNat : Int)); rw [Int.toNat_of_nonneg h9]
theorem six {w : World} {g0 : Nat} {T : TypeId} {a b c d e f : Value} (h : w.heap[g0]? = some (.cells #[a, b, c, d, e, f] T (0, 0))) : w.cell? ⟨g0, 0, none⟩ = some a ∧ w.cell? ⟨g0, 1, none⟩ = some b ∧ w.cell? ⟨g0, 2, none⟩ = some c ∧ w.cell? ⟨g0, 3, none⟩ = some d ∧ w.cell? ⟨g0, 4, none⟩ = some e ∧ w.cell? ⟨g0, 5, none⟩ = some f := by
  refine ⟨?_, ?_, ?_, ?_, ?_, ?_⟩ <;> (rw [Lib.cell_of_heap h]; rfl)
theorem text_B (t : ByteArray) (w : World) (h : t.size ≤ 64) : Calls Try.prog 23 #[.string t] w fun e w' => e = .returned (.string (B (txt t.data.toList))) ∧ Below w.heap.size w w' := by
  have hf := text_f t.data.toList 20 (by rw [size_data]; omega) (Nat.le_refl _)
  rw [B_eta] at hf
  exact pack_Text.calls 20 _ _ w hf
theorem seal_B (x : ByteArray) (w : World) {l : List UInt8} (h : x = B l ∧ l.length ≤ 200) : Calls Try.prog 21 #[.string x] w fun e w' => e = .returned (.string (B (sealL l))) ∧ Below w.heap.size w w' := by
  obtain ⟨rfl, h⟩ := h
  exact check_Seal.calls _ _ w (seal_f l (by omega))
theorem secT_B {v g i d s : Int} {t : ByteArray} (h : Rng v g i d s) (ht : t.size ≤ 64) : (⟨#[83, 71]⟩ : ByteArray) ++ B (encK [v.toNat, g.toNat, i.toNat, d.toNat, s.toNat] 5) ++ B (txt t.data.toList) = B (secT v.toNat g.toNat i.toNat d.toNat s.toNat t.data.toList) ∧ (secT v.toNat g.toNat i.toNat d.toNat s.toNat t.data.toList).length ≤ 200 := by
  constructor
  · have : (⟨#[83, 71]⟩ : ByteArray) = B [83, 71] := rfl
    rw [this, B_append, B_append, encK5]
    rfl
  · unfold secT
    rw [← encK5, List.length_append, List.length_append]
    have h1 := encK_len _ (five_lt h) 5
    have h2 := txt_len t.data.toList (by rw [size_data]; exact ht)
    simp only [List.length_cons, List.length_nil]
    omega
/-- sector.Write, told as a plain function. -/
def secW (v g i d s : Int) (t : ByteArray) : ByteArray × Int :=
  if chk v g i d s t.size = 0 then (B (sealL (secT v.toNat g.toNat i.toNat d.toNat s.toNat t.data.toList)), 0) else (B [], chk v g i d s t.size)
set_option maxRecDepth 100000 in
set_option maxHeartbeats 1000000 in
theorem write_calls (v g i d s : Int) (t : ByteArray) (w : World) : Calls Try.prog 11 #[.agg #[.int .i64 v, .int .i64 g, .int .i64 i, .int .i64 d, .int .i64 s, .string t]] w fun e w' => e = .returned (.tuple #[.string (secW v g i d s t).1, .int .i64 (secW v g i d s t).2]) ∧ Below w.heap.size w w' := by
  have hu25 := Try.underlying30
  have hu23 := Try.underlying23
  have HB : Aside0 (Below w.heap.size w (w.alloc (.cells #[.int .i64 v, .int .i64 g, .int .i64 i, .int .i64 d, .int .i64 s, .string t] 30))) := ⟨(Below.refl _ _).alloc (Nat.le_refl _) _⟩
  by_cases hc : chk v g i d s t.size = 0
  · have hW : secW v g i d s t = (B (sealL (secT v.toNat g.toNat i.toNat d.toNat s.toNat t.data.toList)), 0) := if_pos hc
    rw [hW]
    have HCK := Lib.hid hc
    clear hW hc
    go_enter Try.func11, Try.ntmps11
    go_wp2_with fail
    refine Calls.mono (right_calls v g i d s t _) ?_
    rintro e w1 ⟨rfl, b1⟩
    rw [HCK.out]
    have hblk : w1.heap[w.heap.size]? = some (.cells #[.int .i64 v, .int .i64 g, .int .i64 i, .int .i64 d, .int .i64 s, .string t] 30 (0, 0)) := (b1.block _ (by simp)).trans (heap_alloc_new w _)
    have HB := Aside0.mk (below2 HB.out HB.out.size b1)
    have c0 : w1.cell? ⟨w.heap.size, 0, none⟩ = some (.int .i64 v) := by rw [Lib.cell_of_heap hblk]; rfl
    have c1 : w1.cell? ⟨w.heap.size, 1, none⟩ = some (.int .i64 g) := by rw [Lib.cell_of_heap hblk]; rfl
    have c2 : w1.cell? ⟨w.heap.size, 2, none⟩ = some (.int .i64 i) := by rw [Lib.cell_of_heap hblk]; rfl
    have c3 : w1.cell? ⟨w.heap.size, 3, none⟩ = some (.int .i64 d) := by rw [Lib.cell_of_heap hblk]; rfl
    have c4 : w1.cell? ⟨w.heap.size, 4, none⟩ = some (.int .i64 s) := by rw [Lib.cell_of_heap hblk]; rfl
    have c5 : w1.cell? ⟨w.heap.size, 5, none⟩ = some (.string t) := by rw [Lib.cell_of_heap hblk]; rfl
    have HBK := Aside0.mk hblk
    clear b1 hblk
    go_wp2_with fail
    have hr := chk_ok HCK.out
    have HR := Lib.hid hr.1
    have HT := Lib.hid hr.2
    have HS : Hid ((⟨#[83, 71]⟩ : ByteArray) ++ B (encK [v.toNat, g.toNat, i.toNat, d.toNat, s.toNat] 5) ++ B (txt t.data.toList) = B (secT v.toNat g.toNat i.toNat d.toNat s.toNat t.data.toList) ∧ (secT v.toNat g.toNat i.toNat d.toNat s.toNat t.data.toList).length ≤ 200) := Lib.hid (secT_B hr.1 hr.2)
    have hs1 : (B (encK [v.toNat, g.toNat, i.toNat, d.toNat, s.toNat] 5)).size ≤ 40 := by rw [B_size]; exact encK_len _ (five_lt hr.1) 5
    have hs2 : (B (txt t.data.toList)).size ≤ 72 := by rw [B_size]; exact txt_len _ (by rw [size_data]; exact hr.2)
    have hs3 : ¬ 9223372036854775807 < 2 + (B (encK [v.toNat, g.toNat, i.toNat, d.toNat, s.toNat] 5)).size := by omega
    have hs4 : ¬ 9223372036854775807 < 2 + (B (encK [v.toNat, g.toNat, i.toNat, d.toNat, s.toNat] 5)).size + (B (txt t.data.toList)).size := by omega
    clear hr
    refine start_ (n := 22) (S := fun w' => w'.cell? ⟨w.heap.size, 0, none⟩ = some (.int .i64 v) ∧ w'.cell? ⟨w.heap.size, 1, none⟩ = some (.int .i64 g) ∧ w'.cell? ⟨w.heap.size, 2, none⟩ = some (.int .i64 i) ∧ w'.cell? ⟨w.heap.size, 3, none⟩ = some (.int .i64 d) ∧ w'.cell? ⟨w.heap.size, 4, none⟩ = some (.int .i64 s) ∧ w'.cell? ⟨w.heap.size, 5, none⟩ = some (.string t) ∧ Aside0 (w'.heap[w.heap.size]? = some (.cells #[.int .i64 v, .int .i64 g, .int .i64 i, .int .i64 d, .int .i64 s, .string t] 30 (0, 0))) ∧ Aside0 (Below w.heap.size w w')) (ds := []) #[false, false, false, false, false, false, false, false, false, false, false, false, false, false, false, false, false, false, false, false, false, false] (by kernel_rfl) rfl rfl ⟨c0, c1, c2, c3, c4, c5, ⟨HBK.out⟩, ⟨Below.drew HB.out⟩⟩ (fun hHeld => ?_)
    generalize w1.drew = wn at hHeld ⊢
    refine pure_ (i := 0) (N := some 10) (v := ?_) (a' := ?_) #[true, false, false, false, false, false, false, false, false, false, false, false, false, false, false, false, false, false, false, false, false, false] rfl rfl (by kernel_rfl) (fun _ _ _ h => h) (Or.inl ⟨by rfl, ?_⟩) ?_ ?_
    rotate_left
    · intro w'
      go_simp
      with_reducible rfl
    rotate_left
    · simp only [Act.put, List.setIfInBounds_toArray, List.set_cons_zero, List.set_cons_succ]
      rfl
    refine pure_ (i := 2) (N := some 12) (v := ?_) (a' := ?_) #[true, false, true, false, false, false, false, false, false, false, false, false, false, false, false, false, false, false, false, false, false, false] rfl rfl (by kernel_rfl) (fun _ _ _ h => h) (Or.inl ⟨by rfl, ?_⟩) ?_ ?_
    rotate_left
    · intro w'
      go_simp
      with_reducible rfl
    rotate_left
    · simp only [Act.put, List.setIfInBounds_toArray, List.set_cons_zero, List.set_cons_succ]
      rfl
    refine pure_ (i := 4) (N := some 14) (v := ?_) (a' := ?_) #[true, false, true, false, true, false, false, false, false, false, false, false, false, false, false, false, false, false, false, false, false, false] rfl rfl (by kernel_rfl) (fun _ _ _ h => h) (Or.inl ⟨by rfl, ?_⟩) ?_ ?_
    rotate_left
    · intro w'
      go_simp
      with_reducible rfl
    rotate_left
    · simp only [Act.put, List.setIfInBounds_toArray, List.set_cons_zero, List.set_cons_succ]
      rfl
    refine pure_ (i := 6) (N := some 16) (v := ?_) (a' := ?_) #[true, false, true, false, true, false, true, false, false, false, false, false, false, false, false, false, false, false, false, false, false, false] rfl rfl (by kernel_rfl) (fun _ _ _ h => h) (Or.inl ⟨by rfl, ?_⟩) ?_ ?_
    rotate_left
    · intro w'
      go_simp
      with_reducible rfl
    rotate_left
    · simp only [Act.put, List.setIfInBounds_toArray, List.set_cons_zero, List.set_cons_succ]
      rfl
    refine pure_ (i := 7) (N := some 17) (v := ?_) (a' := ?_) #[true, false, true, false, true, false, true, true, false, false, false, false, false, false, false, false, false, false, false, false, false, false] rfl rfl (by kernel_rfl) (fun _ _ _ h => h) (Or.inl ⟨by rfl, ?_⟩) ?_ ?_
    rotate_left
    · intro w'
      go_simp
      with_reducible rfl
    rotate_left
    · simp only [Act.put, List.setIfInBounds_toArray, List.set_cons_zero, List.set_cons_succ]
      rfl
    refine pure_ (i := 9) (N := some 19) (v := ?_) (a' := ?_) #[true, false, true, false, true, false, true, true, false, true, false, false, false, false, false, false, false, false, false, false, false, false] rfl rfl (by kernel_rfl) (fun _ _ _ h => h) (Or.inl ⟨by rfl, ?_⟩) ?_ ?_
    rotate_left
    · intro w'
      go_simp
      with_reducible rfl
    rotate_left
    · simp only [Act.put, List.setIfInBounds_toArray, List.set_cons_zero, List.set_cons_succ]
      rfl
    refine pure_ (i := 10) (N := some 20) (v := ?_) (a' := ?_) #[true, false, true, false, true, false, true, true, false, true, true, false, false, false, false, false, false, false, false, false, false, false] rfl rfl (by kernel_rfl) (fun _ _ _ h => h) (Or.inl ⟨by rfl, ?_⟩) ?_ ?_
    rotate_left
    · intro w'
      go_simp
      with_reducible rfl
    rotate_left
    · simp only [Act.put, List.setIfInBounds_toArray, List.set_cons_zero, List.set_cons_succ]
      rfl
    refine pure_ (i := 15) (N := some 25) (v := ?_) (a' := ?_) #[true, false, true, false, true, false, true, true, false, true, true, false, false, false, false, true, false, false, false, false, false, false] rfl rfl (by kernel_rfl) (fun _ _ _ h => h) (Or.inl ⟨by rfl, ?_⟩) ?_ ?_
    rotate_left
    · intro w'
      go_simp
      with_reducible rfl
    rotate_left
    · simp only [Act.put, List.setIfInBounds_toArray, List.set_cons_zero, List.set_cons_succ]
      rfl
    refine take_ (i := 1) (N := some 11) (v := ?_) (a' := ?_) #[true, true, true, false, true, false, true, true, false, true, true, false, false, false, false, true, false, false, false, false, false, false] rfl rfl (by kernel_rfl) (fun _ _ _ h => h) (Or.inl ⟨by rfl, ?_⟩) hHeld ?_ ?_
    rotate_left
    · rintro w' ⟨s0, s1, s2, s3, s4, s5, s6, s7⟩
      go_simp
      with_reducible rfl
    rotate_left
    · simp only [Act.put, List.setIfInBounds_toArray, List.set_cons_zero, List.set_cons_succ]
      rfl
    refine take_ (i := 3) (N := some 13) (v := ?_) (a' := ?_) #[true, true, true, true, true, false, true, true, false, true, true, false, false, false, false, true, false, false, false, false, false, false] rfl rfl (by kernel_rfl) (fun _ _ _ h => h) (Or.inl ⟨by rfl, ?_⟩) hHeld ?_ ?_
    rotate_left
    · rintro w' ⟨s0, s1, s2, s3, s4, s5, s6, s7⟩
      go_simp
      with_reducible rfl
    rotate_left
    · simp only [Act.put, List.setIfInBounds_toArray, List.set_cons_zero, List.set_cons_succ]
      rfl
    refine take_ (i := 5) (N := some 15) (v := ?_) (a' := ?_) #[true, true, true, true, true, true, true, true, false, true, true, false, false, false, false, true, false, false, false, false, false, false] rfl rfl (by kernel_rfl) (fun _ _ _ h => h) (Or.inl ⟨by rfl, ?_⟩) hHeld ?_ ?_
    rotate_left
    · rintro w' ⟨s0, s1, s2, s3, s4, s5, s6, s7⟩
      go_simp
      with_reducible rfl
    rotate_left
    · simp only [Act.put, List.setIfInBounds_toArray, List.set_cons_zero, List.set_cons_succ]
      rfl
    refine take_ (i := 8) (N := some 18) (v := ?_) (a' := ?_) #[true, true, true, true, true, true, true, true, true, true, true, false, false, false, false, true, false, false, false, false, false, false] rfl rfl (by kernel_rfl) (fun _ _ _ h => h) (Or.inl ⟨by rfl, ?_⟩) hHeld ?_ ?_
    rotate_left
    · rintro w' ⟨s0, s1, s2, s3, s4, s5, s6, s7⟩
      go_simp
      with_reducible rfl
    rotate_left
    · simp only [Act.put, List.setIfInBounds_toArray, List.set_cons_zero, List.set_cons_succ]
      rfl
    refine take_ (i := 11) (N := some 21) (v := ?_) (a' := ?_) #[true, true, true, true, true, true, true, true, true, true, true, true, false, false, false, true, false, false, false, false, false, false] rfl rfl (by kernel_rfl) (fun _ _ _ h => h) (Or.inl ⟨by rfl, ?_⟩) hHeld ?_ ?_
    rotate_left
    · rintro w' ⟨s0, s1, s2, s3, s4, s5, s6, s7⟩
      go_simp
      with_reducible rfl
    rotate_left
    · simp only [Act.put, List.setIfInBounds_toArray, List.set_cons_zero, List.set_cons_succ]
      rfl
    refine take_ (i := 16) (N := some 26) (v := ?_) (a' := ?_) #[true, true, true, true, true, true, true, true, true, true, true, true, false, false, false, true, true, false, false, false, false, false] rfl rfl (by kernel_rfl) (fun _ _ _ h => h) (Or.inl ⟨by rfl, ?_⟩) hHeld ?_ ?_
    rotate_left
    · rintro w' ⟨s0, s1, s2, s3, s4, s5, s6, s7⟩
      go_simp
      with_reducible rfl
    rotate_left
    · simp only [Act.put, List.setIfInBounds_toArray, List.set_cons_zero, List.set_cons_succ]
      rfl
    refine one_ (i := 12) (N := some 22) #[true, true, true, true, true, true, true, true, true, true, true, true, true, false, false, true, true, false, false, false, false, false] rfl rfl (by kernel_rfl) (by decide) (fun K hK => ?_)
    refine value_ (w1 := ?_) (v := ?_) (by rfl) rfl ?_ ?_
    rotate_left 2
    · go_simp
      constructor
      · rfl
      · rfl
    have hA : Below wn.heap.size wn (wn.alloc (.cells #[.int .i64 v, .int .i64 g, .int .i64 i, .int .i64 d, .int .i64 s] 3)) := (Below.refl _ _).alloc (Nat.le_refl _) _
    have hn5 := five v g i d s wn HR.out
    have hka := (hA.block _ (Array.getElem?_eq_some_iff.1 hHeld.2.2.2.2.2.2.1.out).1).trans hHeld.2.2.2.2.2.2.1.out
    have hwa := below2 hHeld.2.2.2.2.2.2.2.out hHeld.2.2.2.2.2.2.2.out.size hA
    refine hK.out _ _ ⟨(six hka).1, (six hka).2.1, (six hka).2.2.1, (six hka).2.2.2.1, (six hka).2.2.2.2.1, (six hka).2.2.2.2.2, ⟨hka⟩, ⟨hwa⟩⟩ (fun hHeld => ?_)
    clear hK K
    refine norm_ (a' := ?_) ?_ ?_
    rotate_left
    · show Act.put _ (some 22) _ = _
      simp only [Act.put, List.setIfInBounds_toArray, List.set_cons_zero, List.set_cons_succ]
      rfl
    refine one_ (i := 13) (N := some 23) #[true, true, true, true, true, true, true, true, true, true, true, true, true, true, false, true, true, false, false, false, false, false] rfl rfl (by kernel_rfl) (by decide) (fun K hK => ?_)
    refine goes_ Try.func22 (by kernel_rfl) rfl #[.slice (some ⟨wn.heap.size, 0, none⟩) 5 5] (by rfl) rfl rfl (by simp only [List.map_toArray, List.map_cons, List.map_nil]; rfl) ?_
    with_reducible refine (numbers_calls wn.heap.size 5 [v.toNat, g.toNat, i.toNat, d.toNat, s.toNat] 5 (by decide) rfl (five_lt HR.out) _ (by simp) hn5).mono ?_
    rintro e w3 ⟨rfl, b3⟩
    refine ⟨_, rfl, ?_⟩
    have hkc := (b3.block _ (Array.getElem?_eq_some_iff.1 hHeld.2.2.2.2.2.2.1.out).1).trans hHeld.2.2.2.2.2.2.1.out
    have hwc := below2 hHeld.2.2.2.2.2.2.2.out hHeld.2.2.2.2.2.2.2.out.size b3
    refine hK.out _ _ ⟨(six hkc).1, (six hkc).2.1, (six hkc).2.2.1, (six hkc).2.2.2.1, (six hkc).2.2.2.2.1, (six hkc).2.2.2.2.2, ⟨hkc⟩, ⟨hwc⟩⟩ (fun hHeld => ?_)
    clear hK K
    refine norm_ (a' := ?_) ?_ ?_
    rotate_left
    · show Act.put _ (some 23) _ = _
      simp only [Act.put, List.setIfInBounds_toArray, List.set_cons_zero, List.set_cons_succ]
      rfl
    refine pure_ (i := 14) (N := some 24) (v := ?_) (a' := ?_) #[true, true, true, true, true, true, true, true, true, true, true, true, true, true, true, true, true, false, false, false, false, false] rfl rfl (by kernel_rfl) (fun _ _ _ h => h) (Or.inl ⟨by rfl, ?_⟩) ?_ ?_
    rotate_left
    · intro w'
      go_simp
      with_reducible rfl
    rotate_left
    · simp only [Act.put, List.setIfInBounds_toArray, List.set_cons_zero, List.set_cons_succ]
      rfl
    refine one_ (i := 17) (N := some 27) #[true, true, true, true, true, true, true, true, true, true, true, true, true, true, true, true, true, true, false, false, false, false] rfl rfl (by kernel_rfl) (by decide) (fun K hK => ?_)
    refine goes_ Try.func23 (by kernel_rfl) rfl #[.string t] (by rfl) rfl rfl (by simp only [List.map_toArray, List.map_cons, List.map_nil]; rfl) ?_
    with_reducible refine (text_B t _ HT.out).mono ?_
    rintro e w4 ⟨rfl, b4⟩
    refine ⟨_, rfl, ?_⟩
    have hkd := (b4.block _ (Array.getElem?_eq_some_iff.1 hHeld.2.2.2.2.2.2.1.out).1).trans hHeld.2.2.2.2.2.2.1.out
    have hwd := below2 hHeld.2.2.2.2.2.2.2.out hHeld.2.2.2.2.2.2.2.out.size b4
    refine hK.out _ _ ⟨(six hkd).1, (six hkd).2.1, (six hkd).2.2.1, (six hkd).2.2.2.1, (six hkd).2.2.2.2.1, (six hkd).2.2.2.2.2, ⟨hkd⟩, ⟨hwd⟩⟩ (fun hHeld => ?_)
    clear hK K
    refine norm_ (a' := ?_) ?_ ?_
    rotate_left
    · show Act.put _ (some 27) _ = _
      simp only [Act.put, List.setIfInBounds_toArray, List.set_cons_zero, List.set_cons_succ]
      rfl
    refine pure_ (i := 18) (N := some 28) (v := ?_) (a' := ?_) #[true, true, true, true, true, true, true, true, true, true, true, true, true, true, true, true, true, true, true, false, false, false] rfl rfl (by kernel_rfl) (fun _ _ _ h => h) (Or.inl ⟨by rfl, ?_⟩) ?_ ?_
    rotate_left
    · intro w'
      go_simp
      with_reducible rfl
    rotate_left
    · simp only [Act.put, List.setIfInBounds_toArray, List.set_cons_zero, List.set_cons_succ]
      rfl
    refine one_ (i := 19) (N := some 29) #[true, true, true, true, true, true, true, true, true, true, true, true, true, true, true, true, true, true, true, true, false, false] rfl rfl (by kernel_rfl) (by decide) (fun K hK => ?_)
    refine goes_ Try.func21 (by kernel_rfl) rfl #[.string (⟨#[83, 71]⟩ ++ B (encK [v.toNat, g.toNat, i.toNat, d.toNat, s.toNat] 5) ++ B (txt t.data.toList))] (by rfl) rfl rfl (by simp only [List.map_toArray, List.map_cons, List.map_nil]; rfl) ?_
    with_reducible refine (seal_B _ _ HS.out).mono ?_
    rintro e w5 ⟨rfl, b5⟩
    refine ⟨_, rfl, ?_⟩
    have hke := (b5.block _ (Array.getElem?_eq_some_iff.1 hHeld.2.2.2.2.2.2.1.out).1).trans hHeld.2.2.2.2.2.2.1.out
    have hwe := below2 hHeld.2.2.2.2.2.2.2.out hHeld.2.2.2.2.2.2.2.out.size b5
    refine hK.out _ _ ⟨(six hke).1, (six hke).2.1, (six hke).2.2.1, (six hke).2.2.2.1, (six hke).2.2.2.2.1, (six hke).2.2.2.2.2, ⟨hke⟩, ⟨hwe⟩⟩ (fun hHeld => ?_)
    clear hK K
    refine norm_ (a' := ?_) ?_ ?_
    rotate_left
    · show Act.put _ (some 29) _ = _
      simp only [Act.put, List.setIfInBounds_toArray, List.set_cons_zero, List.set_cons_succ]
      rfl
    refine pure_ (i := 20) (N := some 2) (v := ?_) (a' := ?_) #[true, true, true, true, true, true, true, true, true, true, true, true, true, true, true, true, true, true, true, true, true, false] rfl rfl (by kernel_rfl) (fun _ _ _ h => h) (Or.inl ⟨by rfl, ?_⟩) ?_ ?_
    rotate_left
    · intro w'
      go_simp
      with_reducible rfl
    rotate_left
    · simp only [Act.put, List.setIfInBounds_toArray, List.set_cons_zero, List.set_cons_succ]
      rfl
    refine pure_ (i := 21) (N := some 3) (v := ?_) (a' := ?_) #[true, true, true, true, true, true, true, true, true, true, true, true, true, true, true, true, true, true, true, true, true, true] rfl rfl (by kernel_rfl) (fun _ _ _ h => h) (Or.inl ⟨by rfl, ?_⟩) ?_ ?_
    rotate_left
    · intro w'
      go_simp
      with_reducible rfl
    rotate_left
    · simp only [Act.put, List.setIfInBounds_toArray, List.set_cons_zero, List.set_cons_succ]
      rfl
    refine done_ (by kernel_rfl) ?_
    have hfin := hHeld.2.2.2.2.2.2.2.out
    go_wp2_with fail
    go_ret2
    exact ⟨rfl, hfin⟩
  · have hW : secW v g i d s t = (B [], chk v g i d s t.size) := if_neg hc
    rw [hW]
    generalize hk : chk v g i d s t.size = k at *
    have HK := Lib.hid hk
    have hne : (k == 0) = false := by simpa using hc
    have hne2 : (k != 0) = true := by simp [bne, hne]
    clear hW hk hc
    go_enter Try.func11, Try.ntmps11
    go_wp2_with fail
    refine Calls.mono (right_calls v g i d s t _) ?_
    rintro e w1 ⟨rfl, b1⟩
    rw [HK.out]
    have HB := Aside0.mk (below2 HB.out HB.out.size b1)
    clear b1
    go_wp2_with fail
    go_ret2
    exact ⟨rfl, HB.out⟩
/-- sector.Write, in the form in which its callers take it. -/
def sector_Write.f (a0_0 a0_1 a0_2 a0_3 a0_4 : Int) (a0_5 : ByteArray) : Option (ByteArray × Int) := some (secW a0_0 a0_1 a0_2 a0_3 a0_4 a0_5)
theorem sector_Write.calls (a0_0 a0_1 a0_2 a0_3 a0_4 : Int) (a0_5 : ByteArray) (r1 : ByteArray) (r2 : Int) (w : World) (h : sector_Write.f a0_0 a0_1 a0_2 a0_3 a0_4 a0_5 = some (r1, r2)) :
    Calls Try.prog 11 #[.agg #[.int .i64 a0_0, .int .i64 a0_1, .int .i64 a0_2, .int .i64 a0_3, .int .i64 a0_4, .string a0_5]] w fun e w' => e = .returned (.tuple #[.string r1, .int .i64 r2]) ∧ Below w.heap.size w w' := by
  have e := Option.some.inj h
  have := write_calls a0_0 a0_1 a0_2 a0_3 a0_4 a0_5 w
  rw [e] at this
  exact this
end Go.Proofs.Ytoakibpgmjebeaa
