/- What the readers of sector take, told as plain functions. -/
import Derived.Test.YtoakibpgmjebeaaPackFn
import Derived.Test.YtoakibpgmjebeaaSeal
import Derived.Test.YtoakibpgmjebeaaSecWrite
import Derived.Laws.Tables
import Derived.Laws.Rows
namespace Go.Proofs.Ytoakibpgmjebeaa
open Go.RowKit Q Go.Proofs.YtoakibpgmjebeaaW.PrintWords Go.Proofs.YtoakibpgmjebeaaW.PrintLast Go.Proofs.YtoakibpgmjebeaaW.PrintMore
/-- One number taken. -/
def nx (s : List UInt8 × Int) : Nat × List UInt8 × Int := if s.2 = 0 then tk s.1 0 0 else (0, s.1, s.2)
/-- One text taken. -/
def tx (s : List UInt8 × Int) : List UInt8 × List UInt8 × Int := if s.2 = 0 then tkT s.1 else ([], s.1, s.2)
/-- What is left, and the error, behind k numbers. -/
def rdn (l : List UInt8) : Nat → List UInt8 × Int
  | 0 => (l, 0)
  | k + 1 => (nx (rdn l k)).2
def val (l : List UInt8) (k : Nat) : Nat := (nx (rdn l k)).1
/-- The error at the end. -/
def endE (s : List UInt8 × Int) : Int := if s.1 = [] then s.2 else 4
theorem nx_le (s : List UInt8 × Int) : (nx s).2.1.length ≤ s.1.length := by
  unfold nx
  split
  · exact tk_le _ _ _
  · exact Nat.le_refl _
theorem rdn_le (l : List UInt8) (k : Nat) : (rdn l k).1.length ≤ l.length := by
  induction k with
  | zero => exact Nat.le_refl _
  | succ k ih => exact Nat.le_trans (nx_le _) ih
theorem rnx_f (s : List UInt8 × Int) (h : s.1.length ≤ 140737488355328) : pack_Reader_Number.f 20 (B s.1) s.2 = some (((nx s).1 : Int), B (nx s).2.1, (nx s).2.2) := by
  obtain ⟨l, e⟩ := s
  unfold nx
  simp only
  by_cases he : e = 0
  · subst he
    rw [if_pos rfl]
    exact rnum_f l 20 h (Nat.le_refl _)
  · rw [if_neg he]
    exact rnum_err (B l) e 20 he
theorem rtx_f (s : List UInt8 × Int) (h : s.1.length ≤ 140737488355328) : pack_Reader_Text.f 21 (B s.1) s.2 = some (B (tx s).1, B (tx s).2.1, (tx s).2.2) := by
  obtain ⟨l, e⟩ := s
  unfold tx
  simp only
  by_cases he : e = 0
  · subst he
    rw [if_pos rfl]
    exact rtext_f l 21 h (Nat.le_refl _)
  · rw [if_neg he]
    exact rtext_err (B l) e 21 he (by decide)
/-- A text's begin cut off. -/
def cutp (u : List UInt8) : List UInt8 × Bool := if u.take 2 = [83, 71] then (u.drop 2, true) else (u, false)
theorem cutp_f (u : List UInt8) : strings_CutPrefix.f (B u) ⟨#[83, 71]⟩ = some (B (cutp u).1, (cutp u).2) := by
  have h2 : (⟨#[83, 71]⟩ : ByteArray).size = 2 := rfl
  have hl : (⟨#[83, 71]⟩ : ByteArray).toList = [83, 71] := by rw [ByteArray.toList_eq]
  have hx : ((B u).extract 0 2).toList = u.take 2 := by rw [B_extract, B_toList, List.drop_zero]
  unfold strings_CutPrefix.f stringslite_CutPrefix.f stringslite_HasPrefix.f cutp
  rw [h2, hl, hx, B_size]
  by_cases hs : 2 ≤ u.length
  · rw [if_pos (by omega), if_pos (by omega), if_pos (by omega)]
    simp only [Option.bind_some]
    by_cases he : u.take 2 = [83, 71]
    · rw [he]
      simp only [beq_self_eq_true, if_true]
      rw [if_pos (by omega), if_pos (by omega)]
      simp only [Option.bind_some]
      rw [B_extract, List.take_of_length_le (by rw [List.length_drop]; exact Nat.le_refl _)]
    · have hb : (u.take 2 == [83, 71]) = false := by simpa using he
      rw [hb, if_neg he]
      rfl
  · rw [if_neg (by omega)]
    have he : ¬ u.take 2 = [83, 71] := by
      intro h
      have := congrArg List.length h
      rw [List.length_take] at this
      simp only [List.length_cons, List.length_nil] at this
      omega
    rw [if_neg he]
    rfl
end Go.Proofs.Ytoakibpgmjebeaa
/-! sector.Read: its walk. -/
namespace Go.Proofs.Ytoakibpgmjebeaa
open Go.RowKit Q Go.Proofs.YtoakibpgmjebeaaW.PrintWords Go.Proofs.YtoakibpgmjebeaaW.PrintLast Go.Proofs.YtoakibpgmjebeaaW.PrintMore
theorem rend_f (s : List UInt8 × Int) : pack_Reader_End.f (B s.1) s.2 = some (endE s, B [], endE s) ∨ pack_Reader_End.f (B s.1) s.2 = some (endE s, B s.1, endE s) := by
  obtain ⟨l, e⟩ := s
  unfold pack_Reader_End.f endE
  simp only
  rw [B_toList]
  by_cases h : l = []
  · rw [if_pos h, if_pos h]
    exact .inr rfl
  · rw [if_neg h, if_neg h]
    exact .inl rfl
/-- What sector.Read answers. -/
def secR (m : List UInt8) : Int × Int × Int × Int × Int × ByteArray × Int :=
  if (openL m).2 ≠ 0 then (0, 0, 0, 0, 0, B [], (openL m).2)
  else
    if (cutp (openL m).1.data.toList).2 = true ∧ endE (tx (rdn (cutp (openL m).1.data.toList).1 5)).2 = 0 ∧ chk (val (cutp (openL m).1.data.toList).1 0) (val (cutp (openL m).1.data.toList).1 1) (val (cutp (openL m).1.data.toList).1 2) (val (cutp (openL m).1.data.toList).1 3) (val (cutp (openL m).1.data.toList).1 4) (tx (rdn (cutp (openL m).1.data.toList).1 5)).1.length = 0 then
      (val (cutp (openL m).1.data.toList).1 0, val (cutp (openL m).1.data.toList).1 1, val (cutp (openL m).1.data.toList).1 2, val (cutp (openL m).1.data.toList).1 3, val (cutp (openL m).1.data.toList).1 4, B (tx (rdn (cutp (openL m).1.data.toList).1 5)).1, 0)
    else (0, 0, 0, 0, 0, B [], 4)
/-- The header's cells behind k numbers. -/
def hcs (l : List UInt8) (k : Nat) : Array Value := #[.int .i64 (if 0 < k then (val l 0 : Int) else 0), .int .i64 (if 1 < k then (val l 1 : Int) else 0), .int .i64 (if 2 < k then (val l 2 : Int) else 0), .int .i64 (if 3 < k then (val l 3 : Int) else 0), .int .i64 (if 4 < k then (val l 4 : Int) else 0), .string ⟨#[]⟩]
theorem hcs_set (l : List UInt8) (k : Nat) (hk : k < 5) : (hcs l k).setIfInBounds k (.int .i64 (val l k : Int)) = hcs l (k + 1) := by
  match k, hk with
  | 0, _ => rfl
  | 1, _ => rfl
  | 2, _ => rfl
  | 3, _ => rfl
  | 4, _ => rfl
theorem hcs_at (l : List UInt8) (k : Nat) (hk : k < 5) : ∃ v, (hcs l k)[k]? = some v := by
  match k, hk with
  | 0, _ => exact ⟨_, rfl⟩
  | 1, _ => exact ⟨_, rfl⟩
  | 2, _ => exact ⟨_, rfl⟩
  | 3, _ => exact ⟨_, rfl⟩
  | 4, _ => exact ⟨_, rfl⟩
def ptrs (h : Nat) : Array Value := #[.pointer (some ⟨h, 0, none⟩), .pointer (some ⟨h, 1, none⟩), .pointer (some ⟨h, 2, none⟩), .pointer (some ⟨h, 3, none⟩), .pointer (some ⟨h, 4, none⟩)]
theorem ptrs_at (h k : Nat) (hk : k < 5) : (ptrs h)[k]? = some (.pointer (some ⟨h, k, none⟩)) := by
  match k, hk with
  | 0, _ => rfl
  | 1, _ => rfl
  | 2, _ => rfl
  | 3, _ => rfl
  | 4, _ => rfl
/-- Block g of the world is a block of these cells. -/
def Blk (w : World) (g : Nat) (c : Array Value) (T : TypeId) : Prop := w.heap[g]? = some (.cells c T (0, 0))
theorem Blk.lt {w : World} {g : Nat} {c : Array Value} {T : TypeId} (h : Blk w g c T) : g < w.heap.size := (Array.getElem?_eq_some_iff.1 h).1
theorem Blk.cell {w : World} {g : Nat} {c : Array Value} {T : TypeId} (h : Blk w g c T) {i : Nat} {v : Value} (hi : c[i]? = some v) : w.cell? ⟨g, i, none⟩ = some v := by rw [Lib.cell_of_heap h]; exact hi
theorem Blk.free {w : World} {g : Nat} {c : Array Value} {T : TypeId} (h : Blk w g c T) (i : Nat) : w.frozen? ⟨g, i, none⟩ = false := Lib.frozen_of_heap h i
theorem Blk.set {w : World} {g : Nat} {c : Array Value} {T : TypeId} (h : Blk w g c T) (i : Nat) (v : Value) : Blk (w.setCell ⟨g, i, none⟩ v) g (c.setIfInBounds i v) T := by
  have : w.heap[g]? = _ := h
  simp [Blk, World.setCell, Array.getElem?_modify, this]
theorem Blk.other {w : World} {g g' : Nat} {c : Array Value} {T : TypeId} (h : Blk w g c T) (hne : g ≠ g') (i : Nat) (v : Value) : Blk (w.setCell ⟨g', i, none⟩ v) g c T := (Below.heap_setCell _ _ _ _ (fun e => hne e)).trans h
theorem Blk.keep {w w' : World} {g : Nat} {c : Array Value} {T : TypeId} (h : Blk w g c T) (hb : Below w.heap.size w w') : Blk w' g c T := (hb.block g h.lt).trans h
theorem Blk.alloc {w : World} {g : Nat} {c : Array Value} {T : TypeId} (h : Blk w g c T) (o : Obj) : Blk (w.alloc o) g c T := (Lib.alloc_old w o g h.lt).trans h
theorem Blk.new (w : World) (c : Array Value) (T : TypeId) : Blk (w.alloc (.cells c T)) w.heap.size c T := heap_alloc_new w _
theorem Blk.but {w w' : World} {g g' : Nat} {c : Array Value} {T : TypeId} (h : Blk w g c T) (hk : KeepBut w w' g' none) (hne : g ≠ g') : Blk w' g c T := (hk.2 g h.lt hne (by simp)).trans h
theorem below_setRow' {B : Nat} {w w1 : World} (h : Below B w w1) {g : Nat} (hg : B ≤ g) (c : Array Value) : Below B w (w1.setRow g c) :=
  h.trans ⟨rfl, rfl, rfl, by simp [World.setRow], fun k hk => setRow_other w1 g k c (by omega)⟩
theorem one6 (a b c d e : Int) (t : ByteArray) : (#[.int .i64 a, .int .i64 b, .int .i64 c, .int .i64 d, .int .i64 e, .string t] : Array Value).all (·.oneCell') = true := by simp [Value.oneCell']
theorem zeroH (w : World) : (zeroValue 30).run Try.prog w = .ok (.agg #[.int .i64 0, .int .i64 0, .int .i64 0, .int .i64 0, .int .i64 0, .string ⟨#[]⟩]) w := by kernel_rfl
set_option maxRecDepth 100000 in
set_option maxHeartbeats 1000000 in
theorem read_calls (m : List UInt8) (hm : m.length ≤ 140737488355328) (w : World) : Calls Try.prog 14 #[.string (B m)] w fun e w' => e = .returned (.tuple #[.agg #[.int .i64 (secR m).1, .int .i64 (secR m).2.1, .int .i64 (secR m).2.2.1, .int .i64 (secR m).2.2.2.1, .int .i64 (secR m).2.2.2.2.1, .string (secR m).2.2.2.2.2.1], .int .i64 (secR m).2.2.2.2.2.2]) ∧ Below w.heap.size w w' := by
  have hzH := zeroH
  have hu25 := Try.underlying30
  have hu23 := Try.underlying23
  have HO := Lib.hid (open_f m hm)
  have HR : Aside0 (Blk (w.alloc (.cells #[.int .i64 0, .int .i64 0, .int .i64 0, .int .i64 0, .int .i64 0, .string ⟨#[]⟩] 30)) w.heap.size #[.int .i64 0, .int .i64 0, .int .i64 0, .int .i64 0, .int .i64 0, .string ⟨#[]⟩] 30) := ⟨Blk.new w _ _⟩
  have HB : Aside0 (Below w.heap.size w (w.alloc (.cells #[.int .i64 0, .int .i64 0, .int .i64 0, .int .i64 0, .int .i64 0, .string ⟨#[]⟩] 30))) := ⟨(Below.refl _ _).alloc (Nat.le_refl _) _⟩
  go_enter Try.func14, Try.ntmps14
  go_wp2_with fail
  refine Calls.mono (check_Open.calls _ (openL m).1 (openL m).2 _ HO.out) ?_
  rintro e w1 ⟨rfl, b1⟩
  have HR := Aside0.mk (HR.out.keep b1)
  have HB := Aside0.mk (below2 HB.out HB.out.size b1)
  clear b1 HO
  obtain ⟨o1, e1, ho⟩ : ∃ o1 e1, openL m = (o1, e1) := ⟨_, _, rfl⟩
  rw [ho]
  by_cases he : e1 = 0
  · subst he
    obtain ⟨u, rfl⟩ := exB o1
    have HRES : Hid (∀ l is, cutp u = (l, is) → secR m = if is = true ∧ endE (tx (rdn l 5)).2 = 0 ∧ chk (val l 0) (val l 1) (val l 2) (val l 3) (val l 4) (tx (rdn l 5)).1.length = 0 then ((val l 0 : Int), (val l 1 : Int), (val l 2 : Int), (val l 3 : Int), (val l 4 : Int), B (tx (rdn l 5)).1, 0) else (0, 0, 0, 0, 0, B [], 4)) := Lib.hid (by
      intro l is hcut
      have hd : (B u).data.toList = u := rfl
      unfold secR
      rw [ho]
      simp only [ne_eq, not_true_eq_false, if_false, hd, hcut])
    have hul : u.length ≤ m.length := by
      rcases openL_cases m with ⟨_, h⟩ | ⟨_, _, h⟩ | ⟨u', h1, h2⟩
      · rw [ho] at h; cases h
      · rw [ho] at h; cases h
      · rw [ho] at h2
        have : u = u' := B_inj (congrArg Prod.fst h2)
        rw [h1, sealL_len, this]
        exact Nat.le_add_right _ _
    clear ho
    go_wp2_with fail
    refine Calls.mono (strings_CutPrefix.calls (B u) ⟨#[83, 71]⟩ _ _ w1 (cutp_f u)) ?_
    rintro e w2 ⟨rfl, hd⟩
    have HR := Aside0.mk (HR.out.keep hd.below)
    have HB := Aside0.mk (below2 HB.out HB.out.size hd.below)
    clear hd
    obtain ⟨l, is, hcut⟩ : ∃ l is, cutp u = (l, is) := ⟨_, _, rfl⟩
    have HRES := Lib.hid (HRES.out l is hcut)
    have hll : l.length ≤ 140737488355328 := by
      have : l.length ≤ u.length := by
        unfold cutp at hcut
        split at hcut
        · have := congrArg Prod.fst hcut
          simp only at this
          rw [← this, List.length_drop]; omega
        · have := congrArg Prod.fst hcut
          simp only at this
          rw [this]; exact Nat.le_refl _
      omega
    rw [hcut]
    clear hcut hul hm
    go_wp2_with fail
    have hRlt := HR.out.lt
    refine Calls.mono (pack_Read.calls (B l) (B l) 0 w2 w2 (Below.refl _ _) rfl) ?_
    rintro e w3 ⟨g, rfl, hI, b3, _⟩
    have HI := Aside0.mk hI
    have HR := Aside0.mk (HR.out.keep b3)
    have HB := Aside0.mk (below2 HB.out HB.out.size b3)
    have hgg : w.heap.size < g ∧ g < w3.heap.size := ⟨Nat.lt_of_lt_of_le hRlt hI.2, (Array.getElem?_eq_some_iff.1 hI.1).1⟩
    clear hI b3 hRlt
    go_wp2_with fail
    have HI := Aside0.mk ((HI.out.alloc (.cells #[.int .i64 0, .int .i64 0, .int .i64 0, .int .i64 0, .int .i64 0, .string ⟨#[]⟩] 30)).alloc (.cells (ptrs w3.heap.size) 62))
    have HR := Aside0.mk ((HR.out.alloc (.cells #[.int .i64 0, .int .i64 0, .int .i64 0, .int .i64 0, .int .i64 0, .string ⟨#[]⟩] 30)).alloc (.cells (ptrs w3.heap.size) 62))
    have HH : Aside0 (Blk ((w3.alloc (.cells #[.int .i64 0, .int .i64 0, .int .i64 0, .int .i64 0, .int .i64 0, .string ⟨#[]⟩] 30)).alloc (.cells (ptrs w3.heap.size) 62)) w3.heap.size (hcs l 0) 30) := ⟨(Blk.new w3 _ _).alloc _⟩
    have HP : Aside0 (Blk ((w3.alloc (.cells #[.int .i64 0, .int .i64 0, .int .i64 0, .int .i64 0, .int .i64 0, .string ⟨#[]⟩] 30)).alloc (.cells (ptrs w3.heap.size) 62)) (w3.heap.size + 1) (ptrs w3.heap.size) 62) := ⟨by
      have := Blk.new (w3.alloc (.cells #[.int .i64 0, .int .i64 0, .int .i64 0, .int .i64 0, .int .i64 0, .string ⟨#[]⟩] 30)) (ptrs w3.heap.size) 62
      simp only [World.size_alloc] at this
      exact this⟩
    have HB := Aside0.mk (below_alloc (below_alloc HB.out (.cells #[.int .i64 0, .int .i64 0, .int .i64 0, .int .i64 0, .int .i64 0, .string ⟨#[]⟩] 30)) (.cells (ptrs w3.heap.size) 62))
    obtain ⟨hb0, hhb⟩ : ∃ hb0, hb0 = w3.heap.size := ⟨_, rfl⟩
    rw [← hhb] at HI HH HP HR HB hgg
    rw [← hhb]
    clear hhb
    go_loopw [36] (fun n wr => ∃ k : Nat, k ≤ 5 ∧ n = .int .i64 k ∧ Aside0 (IsS81 w wr g (B (rdn l k).1) (rdn l k).2) ∧ Aside0 (Blk wr hb0 (hcs l k) 30) ∧ Aside0 (Blk wr (hb0 + 1) (ptrs hb0) 62) ∧ Aside0 (Blk wr w.heap.size #[.int .i64 0, .int .i64 0, .int .i64 0, .int .i64 0, .int .i64 0, .string ⟨#[]⟩] 30) ∧ Aside0 (Below w.heap.size w wr)) (fun n _ => 5 - (intOf n).toNat)
    case atStart => exact ⟨0, by omega, rfl, ⟨HI.out.1, by omega⟩, HH, HP, HR, HB⟩
    case round =>
      clear HI HH HP HR HB
      obtain ⟨k, hk, rfl, HI, HH, HP, HR, HB⟩ := hrel
      by_cases hlt : k < 5
      · have hpc := HP.out.cell (ptrs_at hb0 k hlt)
        have HN := Lib.hid (rnx_f (rdn l k) (Nat.le_trans (rdn_le l k) hll))
        go_wp2_with fail
        refine Calls.mono (pack_Reader_Number.calls 20 g _ _ _ _ _ w wr HI.out HB.out HN.out) ?_
        rintro e w4 ⟨rfl, hI4, hB4, hK4⟩
        have HI := Aside0.mk hI4
        have HB := Aside0.mk hB4
        have HH := Aside0.mk (HH.out.but hK4 (by omega))
        have HP := Aside0.mk (HP.out.but hK4 (by omega))
        have HR := Aside0.mk (HR.out.but hK4 (by omega))
        clear hI4 hB4 hK4 hpc HN
        obtain ⟨hv0, hva⟩ := hcs_at l k hlt
        have hc := HH.out.cell hva
        have hf := HH.out.free k
        have HS := Lib.hid (hcs_set l k hlt)
        have HV : Hid (((nx (rdn l k)).1 : Int) = (val l k : Int)) := Lib.hid rfl
        have HN2 : Hid ((nx (rdn l k)).2 = rdn l (k + 1)) := Lib.hid rfl
        go_wp2_with fail
        go_roundw
        case measure => simp [intOf]; omega
        case rel =>
          refine ⟨k + 1, by omega, by go_num, ⟨?_, HI.out.2⟩, ⟨?_⟩, ⟨HP.out.other (by omega) _ _⟩, ⟨HR.out.other (by omega) _ _⟩, ⟨HB.out.setCell (by show w.heap.size ≤ hb0; omega) _⟩⟩
          · rw [← HN2.out]
            exact (Below.heap_setCell _ _ _ _ (by show g ≠ hb0; omega)).trans HI.out.1
          · have := HH.out.set k (.int .i64 (val l k : Int))
            rw [HS.out] at this
            exact this
      · obtain rfl : k = 5 := by omega
        have HX := Lib.hid (rtx_f (rdn l 5) (Nat.le_trans (rdn_le l 5) hll))
        go_wp2_with fail
        refine Calls.mono (pack_Reader_Text.calls 21 g _ _ _ _ _ w wr HI.out HB.out HX.out) ?_
        rintro e w4 ⟨rfl, hI4, hB4, hK4⟩
        have HI := Aside0.mk hI4
        have HB := Aside0.mk hB4
        have HH := Aside0.mk (HH.out.but hK4 (by omega))
        have HR := Aside0.mk (HR.out.but hK4 (by omega))
        clear hI4 hB4 hK4 HX HP
        obtain ⟨x, s5, hx⟩ : ∃ x s5, tx (rdn l 5) = (x, s5) := ⟨_, _, rfl⟩
        rw [hx] at HI HRES ⊢
        clear hx
        have hc := HH.out.cell (i := 5) (v := .string ⟨#[]⟩) rfl
        have hf := HH.out.free 5
        have HH := Aside0.mk (show Blk (w4.setCell ⟨hb0, 5, none⟩ (.string (B x))) hb0 #[.int .i64 (val l 0 : Int), .int .i64 (val l 1 : Int), .int .i64 (val l 2 : Int), .int .i64 (val l 3 : Int), .int .i64 (val l 4 : Int), .string (B x)] 30 from HH.out.set 5 (.string (B x)))
        have HR := Aside0.mk (HR.out.other (g' := hb0) (by omega) 5 (.string (B x)))
        have HB := Aside0.mk (HB.out.setCell (p := ⟨hb0, 5, none⟩) (by show w.heap.size ≤ hb0; omega) (.string (B x)))
        have HI := Aside0.mk (show IsS81 w (w4.setCell ⟨hb0, 5, none⟩ (.string (B x))) g (B s5.1) s5.2 from ⟨(Below.heap_setCell _ _ _ _ (by show g ≠ hb0; omega)).trans HI.out.1, HI.out.2⟩)
        cases is
        · have HRES := Lib.hid (show secR m = (0, 0, 0, 0, 0, B [], 4) from HRES.out.trans (if_neg (by simp)))
          go_wp2_with (refine gate_ (.store 30 (.tmp 2) (.tmp 60)) rfl ?_; refine wpList_plain rfl (fun K hK => ?_); refine wp_store_row 30 (.tmp 2) (.tmp 60) rfl w.heap.size #[.int .i64 0, .int .i64 0, .int .i64 0, .int .i64 0, .int .i64 0, .string ⟨#[]⟩] rfl rfl 30 #[.int .i64 0, .int .i64 0, .int .i64 0, .int .i64 0, .int .i64 0, .string ⟨#[]⟩] HR.out (by kernel_rfl) rfl (one6 _ _ _ _ _ _) (hK _ _ ?_); clear hK K; simp only [Act.put])
          have HF := Aside0.mk (show Blk ((w4.setCell ⟨hb0, 5, none⟩ (.string (B x))).setRow w.heap.size #[.int .i64 0, .int .i64 0, .int .i64 0, .int .i64 0, .int .i64 0, .string ⟨#[]⟩]) w.heap.size #[.int .i64 0, .int .i64 0, .int .i64 0, .int .i64 0, .int .i64 0, .string ⟨#[]⟩] 30 from setRow_heap (w4.setCell ⟨hb0, 5, none⟩ (.string (B x))) _ _ _ _ _ HR.out)
          have HB := Aside0.mk (below_setRow' HB.out (Nat.le_refl _) #[.int .i64 0, .int .i64 0, .int .i64 0, .int .i64 0, .int .i64 0, .string ⟨#[]⟩])
          generalize (w4.setCell ⟨hb0, 5, none⟩ (.string (B x))).setRow w.heap.size #[.int .i64 0, .int .i64 0, .int .i64 0, .int .i64 0, .int .i64 0, .string ⟨#[]⟩] = wf at *
          go_wp2_with fail
          obtain ⟨r0, r1, r2, r3, r4, r5⟩ := six HF.out
          exact bodyPost_ret (v := .tuple #[.agg #[.int .i64 0, .int .i64 0, .int .i64 0, .int .i64 0, .int .i64 0, .string ⟨#[]⟩], .int .i64 4]) (by simp [results, Try.results14, go_sem, r0, r1, r2, r3, r4, r5]) rfl ⟨by rw [HRES.out]; rfl, HB.out⟩
        · obtain ⟨r2, hE⟩ : ∃ r2, pack_Reader_End.f (B s5.1) s5.2 = some (endE s5, r2, endE s5) := (rend_f s5).elim (fun h => ⟨_, h⟩) (fun h => ⟨_, h⟩)
          have HE := Lib.hid hE
          clear hE
          go_wp2_with fail
          refine Calls.mono (pack_Reader_End.calls g _ _ _ _ _ w (w4.setCell ⟨hb0, 5, none⟩ (.string (B x))) HI.out HB.out HE.out) ?_
          rintro e w5 ⟨rfl, hI5, hB5, hK5⟩
          have HB := Aside0.mk hB5
          have HH := Aside0.mk (HH.out.but hK5 (by omega))
          have HR := Aside0.mk (HR.out.but hK5 (by omega))
          clear hI5 hB5 hK5 HE HI hc hf
          by_cases he : endE s5 = 0
          · have HRES := Lib.hid (HRES.out.trans (by rw [he]))
            rw [he]
            obtain ⟨c0, c1, c2, c3, c4, c5⟩ := six HH.out
            go_wp2_with fail
            have hRlt := HR.out.lt
            have hHlt := HH.out.lt
            refine Calls.mono (right_calls _ _ _ _ _ _ w5) ?_
            rintro e w6 ⟨rfl, b6⟩
            have HH := Aside0.mk (HH.out.keep b6)
            have HR := Aside0.mk (HR.out.keep b6)
            have HB := Aside0.mk (below2 HB.out HB.out.size b6)
            clear b6 c0 c1 c2 c3 c4 c5 hRlt hHlt
            have HRES := Lib.hid (show secR m = if chk (val l 0) (val l 1) (val l 2) (val l 3) (val l 4) (B x).size = 0 then ((val l 0 : Int), (val l 1 : Int), (val l 2 : Int), (val l 3 : Int), (val l 4 : Int), B x, 0) else (0, 0, 0, 0, 0, B [], 4) from HRES.out.trans (by rw [B_size]; simp))
            obtain ⟨y, hy⟩ : ∃ y, chk (val l 0) (val l 1) (val l 2) (val l 3) (val l 4) (B x).size = y := ⟨_, rfl⟩
            rw [hy] at HRES ⊢
            clear hy
            obtain ⟨c0, c1, c2, c3, c4, c5⟩ := six HH.out
            by_cases hy : y = 0
            · subst hy
              have HRES := Lib.hid (HRES.out.trans (if_pos rfl))
              go_wp2_with (refine gate_ (.store 30 (.tmp 2) (.tmp 61)) rfl ?_; refine wpList_plain rfl (fun K hK => ?_); refine wp_store_row 30 (.tmp 2) (.tmp 61) rfl w.heap.size #[.int .i64 (val l 0 : Int), .int .i64 (val l 1 : Int), .int .i64 (val l 2 : Int), .int .i64 (val l 3 : Int), .int .i64 (val l 4 : Int), .string (B x)] rfl rfl 30 #[.int .i64 0, .int .i64 0, .int .i64 0, .int .i64 0, .int .i64 0, .string ⟨#[]⟩] HR.out (by kernel_rfl) rfl (one6 _ _ _ _ _ _) (hK _ _ ?_); clear hK K; simp only [Act.put])
              have HF := Aside0.mk (show Blk (w6.setRow w.heap.size #[.int .i64 (val l 0 : Int), .int .i64 (val l 1 : Int), .int .i64 (val l 2 : Int), .int .i64 (val l 3 : Int), .int .i64 (val l 4 : Int), .string (B x)]) w.heap.size #[.int .i64 (val l 0 : Int), .int .i64 (val l 1 : Int), .int .i64 (val l 2 : Int), .int .i64 (val l 3 : Int), .int .i64 (val l 4 : Int), .string (B x)] 30 from setRow_heap w6 _ _ _ _ _ HR.out)
              have HB := Aside0.mk (below_setRow' HB.out (Nat.le_refl _) #[.int .i64 (val l 0 : Int), .int .i64 (val l 1 : Int), .int .i64 (val l 2 : Int), .int .i64 (val l 3 : Int), .int .i64 (val l 4 : Int), .string (B x)])
              generalize w6.setRow w.heap.size #[.int .i64 (val l 0 : Int), .int .i64 (val l 1 : Int), .int .i64 (val l 2 : Int), .int .i64 (val l 3 : Int), .int .i64 (val l 4 : Int), .string (B x)] = wf at *
              go_wp2_with fail
              obtain ⟨r0, r1, r2, r3, r4, r5⟩ := six HF.out
              exact bodyPost_ret (v := .tuple #[.agg #[.int .i64 (val l 0 : Int), .int .i64 (val l 1 : Int), .int .i64 (val l 2 : Int), .int .i64 (val l 3 : Int), .int .i64 (val l 4 : Int), .string (B x)], .int .i64 0]) (by simp [results, Try.results14, go_sem, r0, r1, r2, r3, r4, r5]) rfl ⟨by rw [HRES.out]; rfl, HB.out⟩
            · have HRES := Lib.hid (HRES.out.trans (if_neg hy))
              have t1 : (y == 0) = false := by simpa using hy
              have t2 : (y != 0) = true := by simp [bne, t1]
              clear hy
              go_wp2_with (refine gate_ (.store 30 (.tmp 2) (.tmp 60)) rfl ?_; refine wpList_plain rfl (fun K hK => ?_); refine wp_store_row 30 (.tmp 2) (.tmp 60) rfl w.heap.size #[.int .i64 0, .int .i64 0, .int .i64 0, .int .i64 0, .int .i64 0, .string ⟨#[]⟩] rfl rfl 30 #[.int .i64 0, .int .i64 0, .int .i64 0, .int .i64 0, .int .i64 0, .string ⟨#[]⟩] HR.out (by kernel_rfl) rfl (one6 _ _ _ _ _ _) (hK _ _ ?_); clear hK K; simp only [Act.put])
              have HF := Aside0.mk (show Blk (w6.setRow w.heap.size #[.int .i64 0, .int .i64 0, .int .i64 0, .int .i64 0, .int .i64 0, .string ⟨#[]⟩]) w.heap.size #[.int .i64 0, .int .i64 0, .int .i64 0, .int .i64 0, .int .i64 0, .string ⟨#[]⟩] 30 from setRow_heap w6 _ _ _ _ _ HR.out)
              have HB := Aside0.mk (below_setRow' HB.out (Nat.le_refl _) #[.int .i64 0, .int .i64 0, .int .i64 0, .int .i64 0, .int .i64 0, .string ⟨#[]⟩])
              generalize w6.setRow w.heap.size #[.int .i64 0, .int .i64 0, .int .i64 0, .int .i64 0, .int .i64 0, .string ⟨#[]⟩] = wf at *
              go_wp2_with fail
              obtain ⟨r0, r1, r2, r3, r4, r5⟩ := six HF.out
              exact bodyPost_ret (v := .tuple #[.agg #[.int .i64 0, .int .i64 0, .int .i64 0, .int .i64 0, .int .i64 0, .string ⟨#[]⟩], .int .i64 4]) (by simp [results, Try.results14, go_sem, r0, r1, r2, r3, r4, r5]) rfl ⟨by rw [HRES.out]; rfl, HB.out⟩
          · have HRES := Lib.hid (show secR m = (0, 0, 0, 0, 0, B [], 4) from HRES.out.trans (if_neg (fun h => he h.2.1)))
            have t1 : (endE s5 == 0) = false := by simpa using he
            have t2 : (endE s5 != 0) = true := by simp [bne, t1]
            clear he
            go_wp2_with (refine gate_ (.store 30 (.tmp 2) (.tmp 60)) rfl ?_; refine wpList_plain rfl (fun K hK => ?_); refine wp_store_row 30 (.tmp 2) (.tmp 60) rfl w.heap.size #[.int .i64 0, .int .i64 0, .int .i64 0, .int .i64 0, .int .i64 0, .string ⟨#[]⟩] rfl rfl 30 #[.int .i64 0, .int .i64 0, .int .i64 0, .int .i64 0, .int .i64 0, .string ⟨#[]⟩] HR.out (by kernel_rfl) rfl (one6 _ _ _ _ _ _) (hK _ _ ?_); clear hK K; simp only [Act.put])
            have HF := Aside0.mk (show Blk (w5.setRow w.heap.size #[.int .i64 0, .int .i64 0, .int .i64 0, .int .i64 0, .int .i64 0, .string ⟨#[]⟩]) w.heap.size #[.int .i64 0, .int .i64 0, .int .i64 0, .int .i64 0, .int .i64 0, .string ⟨#[]⟩] 30 from setRow_heap w5 _ _ _ _ _ HR.out)
            have HB := Aside0.mk (below_setRow' HB.out (Nat.le_refl _) #[.int .i64 0, .int .i64 0, .int .i64 0, .int .i64 0, .int .i64 0, .string ⟨#[]⟩])
            generalize w5.setRow w.heap.size #[.int .i64 0, .int .i64 0, .int .i64 0, .int .i64 0, .int .i64 0, .string ⟨#[]⟩] = wf at *
            go_wp2_with fail
            obtain ⟨r0, r1, r2, r3, r4, r5⟩ := six HF.out
            exact bodyPost_ret (v := .tuple #[.agg #[.int .i64 0, .int .i64 0, .int .i64 0, .int .i64 0, .int .i64 0, .string ⟨#[]⟩], .int .i64 4]) (by simp [results, Try.results14, go_sem, r0, r1, r2, r3, r4, r5]) rfl ⟨by rw [HRES.out]; rfl, HB.out⟩
  · have HRES := Lib.hid (show secR m = (0, 0, 0, 0, 0, B [], e1) by unfold secR; rw [ho, if_pos he])
    have t1 : (e1 == 0) = false := by simpa using he
    have t2 : (e1 != 0) = true := by simp [bne, t1]
    clear he ho
    go_wp2_with (refine gate_ (.store 30 (.tmp 2) (.tmp 18)) rfl ?_; refine wpList_plain rfl (fun K hK => ?_); refine wp_store_row 30 (.tmp 2) (.tmp 18) rfl w.heap.size #[.int .i64 0, .int .i64 0, .int .i64 0, .int .i64 0, .int .i64 0, .string ⟨#[]⟩] rfl rfl 30 #[.int .i64 0, .int .i64 0, .int .i64 0, .int .i64 0, .int .i64 0, .string ⟨#[]⟩] HR.out (by kernel_rfl) rfl (one6 _ _ _ _ _ _) (hK _ _ ?_); clear hK K; simp only [Act.put])
    have HF := Aside0.mk (show Blk (w1.setRow w.heap.size #[.int .i64 0, .int .i64 0, .int .i64 0, .int .i64 0, .int .i64 0, .string ⟨#[]⟩]) w.heap.size #[.int .i64 0, .int .i64 0, .int .i64 0, .int .i64 0, .int .i64 0, .string ⟨#[]⟩] 30 from setRow_heap w1 _ _ _ _ _ HR.out)
    have HB := Aside0.mk (below_setRow' HB.out (Nat.le_refl _) #[.int .i64 0, .int .i64 0, .int .i64 0, .int .i64 0, .int .i64 0, .string ⟨#[]⟩])
    generalize w1.setRow w.heap.size #[.int .i64 0, .int .i64 0, .int .i64 0, .int .i64 0, .int .i64 0, .string ⟨#[]⟩] = wf at *
    go_wp2_with fail
    obtain ⟨r0, r1, r2, r3, r4, r5⟩ := six HF.out
    exact bodyPost_ret (v := .tuple #[.agg #[.int .i64 0, .int .i64 0, .int .i64 0, .int .i64 0, .int .i64 0, .string ⟨#[]⟩], .int .i64 e1]) (by simp [results, Try.results14, go_sem, r0, r1, r2, r3, r4, r5]) rfl ⟨by rw [HRES.out]; rfl, HB.out⟩
/-- sector.Read, in the form in which its callers take it. -/
def sector_Read.f (a0 : ByteArray) : Option (Int × Int × Int × Int × Int × ByteArray × Int) :=
  if a0.size ≤ 140737488355328 then some (secR a0.data.toList) else none
theorem sector_Read.calls (a0 : ByteArray) (r1 r2 r3 r4 r5 : Int) (r6 : ByteArray) (r7 : Int) (w : World) (h : sector_Read.f a0 = some (r1, r2, r3, r4, r5, r6, r7)) :
    Calls Try.prog 14 #[.string a0] w fun e w' => e = .returned (.tuple #[.agg #[.int .i64 r1, .int .i64 r2, .int .i64 r3, .int .i64 r4, .int .i64 r5, .string r6], .int .i64 r7]) ∧ Below w.heap.size w w' := by
  unfold sector_Read.f at h
  split at h
  · rename_i hs
    have h := Option.some.inj h
    have := read_calls a0.data.toList (by rw [size_data]; exact hs) w
    rw [h, B_eta] at this
    exact this
  · cases h
end Go.Proofs.Ytoakibpgmjebeaa
