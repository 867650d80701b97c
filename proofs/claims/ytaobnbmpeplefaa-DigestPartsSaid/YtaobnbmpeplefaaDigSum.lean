/- (*State).Sum: its walk. -/
import Derived.Test.YtaobnbmpeplefaaDigAdd
import Derived.Test.YtaobnbmpeplefaaRowB
import Derived.Test.YtaobnbmpeplefaaBWrite
import Derived.Test.YtaobnbmpeplefaaBytes
namespace Go.Proofs.Ytaobnbmpeplefaa
open Go.RowKit Q Go.Proofs.YtaobnbmpeplefaaW.PrintWords Go.Proofs.YtaobnbmpeplefaaW.PrintLast Go.Proofs.YtaobnbmpeplefaaW.PrintMore
set_option maxRecDepth 100000 in
set_option maxHeartbeats 400000 in
theorem dsum_nil (w : World) : Calls Try.prog 15 #[.pointer none] w fun e w' => e = .returned (.string ⟨#[]⟩) ∧ w = w' := by
  go_enter Try.func15, Try.ntmps15
  go_wp2
  go_ret
  exact ⟨rfl, rfl⟩
theorem row_len {B : Nat} {E : TypeId} {v : Value} {l : List UInt8} {w : World} (h : RowB B E v l w) {L : Nat} (hL : l.length = L + 1) : ∃ g cap, v = .slice (some ⟨g, 0, none⟩) (L + 1) cap := by
  obtain ⟨g, cap, hv, _⟩ := h.ne (by intro h0; rw [h0] at hL; cases hL)
  exact ⟨g, cap, by rw [hv, hL]⟩
theorem RowB.past {B : Nat} {E : TypeId} {v : Value} {l : List UInt8} {w : World} (h : RowB B E v l w) {g : Nat} (hne : ∀ k, v.ownBlock = some k → k ≠ g) (c : Array Value) : RowB B E v l (w.setRow g c) :=
  h.keep (fun k hk => setRow_other w g k c (hne k hk))
theorem conv_run (ev : Operand → Value) (x : Operand) (g off cap : Nat) (l : List UInt8) (s : ByteArray) (W : World) (hs : (⟨l.toArray⟩ : ByteArray) = s) (hc : ∀ j x, l[j]? = some x → W.cell? ⟨g, off + j, none⟩ = some (.int .u8 (x.toNat : Int))) {n : Nat} (hn : l.length = n) (hx : ev x = .slice (some ⟨g, off, none⟩) n cap) {o : Oper} (ho : o.op = .convert 31 9 x) :
    (execOp ev o).run Try.prog W = .ok (.value (.string s)) W := by
  subst hs hn
  unfold execOp
  simp only [ho, hx, Sem.run_bind, Result.andThen_ok, run_string_bytes W 31 9 5 Try.underlying31 Try.underlying5 Try.underlying9 g off cap l hc, Sem.run_pure]
/-- A word's four bytes, the highest one first. -/
def be4 (x : Int) : List UInt8 := [UInt8.ofNat (x / 16777216 % 256).toNat, UInt8.ofNat (x / 65536 % 256).toNat, UInt8.ofNat (x / 256 % 256).toNat, UInt8.ofNat (x % 256).toNat]
def outk (l : List Int) : Nat → List UInt8
  | 0 => []
  | k + 1 => outk l k ++ be4 (l.getD k 0)
theorem outk_len (l : List Int) (k : Nat) : (outk l k).length = 4 * k := by
  induction k with
  | zero => rfl
  | succ k ih => rw [outk, List.length_append, ih]; simp [be4]; omega
theorem be_byte (x : Int) : ((UInt8.ofNat (x % 256).toNat).toNat : Int) = x % 256 := by
  rw [UInt8.toNat_ofNat', Nat.mod_eq_of_lt (by omega)]
  omega
theorem index_word (y : V8) (k : Nat) (hk : k < 8) (W : World) : (Instr.index 46 (.agg y.cells) (.int .i64 (k : Int))).run Try.prog W = .ok (.int .u32 (y.l.getD k 0)) W := by
  match k, hk with
  | 0, _ => rfl
  | 1, _ => rfl
  | 2, _ => rfl
  | 3, _ => rfl
  | 4, _ => rfl
  | 5, _ => rfl
  | 6, _ => rfl
  | 7, _ => rfl
/-- How many bytes 0 go behind m bytes. -/
def pz (m : Nat) : Nat := (120 - m % 64) % 64
/-- The bytes of a size, in bits, the highest one first. -/
def szb (n : Nat) : Nat → List UInt8
  | 0 => []
  | j + 1 => szb n j ++ [UInt8.ofNat (n * 8 / 2 ^ (8 * (7 - j)) % 256)]
theorem szb_len (n j : Nat) : (szb n j).length = j := by
  induction j with
  | zero => rfl
  | succ j ih => rw [szb, List.length_append, ih]; rfl
/-- A text's rest, filled up. -/
def fill0 (r : ByteArray) : List UInt8 := r.data.toList ++ [128]
def fill1 (r : ByteArray) : List UInt8 := fill0 r ++ List.replicate (pz (fill0 r).length) 0
def fill2 (r : ByteArray) (n : Nat) : List UInt8 := fill1 r ++ szb n 8
theorem fill2_64 (r : ByteArray) (n : Nat) : 64 * ((fill2 r n).length / 64) = (fill2 r n).length := by
  unfold fill2 fill1
  rw [List.length_append, List.length_append, szb_len, List.length_replicate]
  unfold pz
  omega
set_option maxRecDepth 100000 in
set_option maxHeartbeats 1000000 in
theorem dsum_calls (g : Nat) (x : V8) (r : ByteArray) (n : Nat) (w : World) (h : DSt w g x r n) (hr : r.size ≤ 64) (hn : n ≤ 140737488355328) :
    Calls Try.prog 15 #[.pointer (some ⟨g, 0, none⟩)] w fun e w' => e = .returned (.string ⟨(outk (fd x ⟨(fill2 r n).toArray⟩ ((fill2 r n).length / 64)).l 8).toArray⟩) ∧ Below w.heap.size w w' := by
  obtain ⟨i0, hi, hz0, hz1, hz2⟩ := info8
  have HD := Aside0.mk h
  have HG := Aside0.mk h.lt
  have c8 := h.c8
  clear h
  have hcv := fun (W : World) => Lib.run_convert_string_bytes (P := Try.prog) W 9 31 5 (r ++ ⟨#[128]⟩) Try.underlying9 Try.underlying31 Try.underlying5
  have hsz : (r ++ ⟨#[128]⟩ : ByteArray).size = r.size + 1 := by rw [ByteArray.size_append]; rfl
  have hR := RowB.bytes w 5 (r ++ ⟨#[128]⟩) (by rw [hsz]; unfold maxLen; omega)
  have hBel := RowB.bytesBelow w 5 (r ++ ⟨#[128]⟩)
  have e0 : (r ++ ⟨#[128]⟩ : ByteArray).data.toList = fill0 r := by
    show (ByteArray.append r ⟨#[128]⟩).data.toList = _
    simp [fill0, ByteArray.append_eq]
  rw [e0] at hR
  have hl0 : (fill0 r).length = r.size + 1 := by rw [← e0, Array.length_toList]; exact hsz
  have G1 := Aside0.mk hR
  have G2 := Aside0.mk hBel
  have G3 := Lib.hid hl0
  clear hR hBel hl0 e0
  go_enter Try.func15, Try.ntmps15
  go_wp2_with fail
  have G2 := G2.out
  have G1 := G1.out
  rw [hsz] at G1
  have HZ : pz (r.size + 1) < 64 := by unfold pz; omega
  generalize Lib.bytesWorld w 5 (r ++ ⟨#[128]⟩) = w1 at *
  generalize grownCap w (r.size + 1) 0 5 = cap1 at *
  have G1 := Aside0.mk G1
  have G2 := Aside0.mk G2
  clear hcv c8 hsz
  go_loopg [3] (pz (r.size + 1)) (fun m v wr => ∃ g1 cap j L : Nat, v = .slice (some ⟨g1, 0, none⟩) L cap ∧ L ≤ 200 ∧ Aside0 (j + m = pz (r.size + 1) ∧ L = r.size + 1 + j) ∧ Aside0 (RowB w.heap.size 5 (.slice (some ⟨g1, 0, none⟩) L cap) (fill0 r ++ List.replicate j 0) wr) ∧ Aside0 (Below w.heap.size w wr))
  case atStart => exact ⟨_, _, 0, _, rfl, by omega, ⟨by omega, by omega⟩, ⟨by rw [List.replicate_zero, List.append_nil]; exact G1.out⟩, G2⟩
  case round =>
    clear G1 G2
    obtain ⟨g1, cap, j, L, rfl, hL, HJ, G1, G2⟩ := hrel
    by_cases hm : gk = 0
    · have t1 : (L : Int) % 64 = 56 := by have := HJ.out; unfold pz at this; omega
      have t2 : ((L : Int) % 64 == 56) = true := by rw [t1]; rfl
      have t3 : ((L : Int) % 64 != 56) = false := by rw [t1]; rfl
      clear t1
      go_wp2_with fail
      have hj : j = pz (r.size + 1) ∧ L = r.size + 1 + pz (r.size + 1) := by have := HJ.out; omega
      obtain ⟨rfl, hLe⟩ := hj
      have G1 : Aside0 (RowB w.heap.size 5 (.slice (some ⟨g1, 0, none⟩) L cap) (fill1 r ++ szb n 0) wr) := ⟨by
        have := G1.out
        unfold fill1 szb
        rw [List.append_nil, G3.out]
        exact this⟩
      have hF1 : Hid ((fill1 r).length = L) := Lib.hid (by unfold fill1; rw [List.length_append, List.length_replicate, G3.out, hLe])
      clear HJ t2 t3 hLe hm
      go_loopg [3, 4] 8 (fun m v i wr => ∃ g1 cap j L' : Nat, ∃ q : Int, v = .slice (some ⟨g1, 0, none⟩) L' cap ∧ i = .int .i64 q ∧ L' ≤ 208 ∧ Aside0 (j + m = 8 ∧ L' = L + j ∧ q = (m : Int) - 1) ∧ Aside0 (RowB w.heap.size 5 (.slice (some ⟨g1, 0, none⟩) L' cap) (fill1 r ++ szb n j) wr) ∧ Aside0 (Below w.heap.size w wr))
      case atStart => exact ⟨_, _, 0, _, _, rfl, rfl, by omega, ⟨by omega, by omega, by omega⟩, G1, G2⟩
      case round =>
        clear G1 G2
        obtain ⟨g2, cap2, j, L', q, rfl, rfl, hL', HJ, G1, G2⟩ := hrel
        by_cases hm : gk = 0
        · obtain rfl : q = -1 := by have := HJ.out; omega
          have hz8 := zero8
          have hDw := HD.out.keep G2.out
          have HDw := Aside0.mk hDw
          clear hDw
          go_wp2_with (first | (refine gate_ (.load 46 (.tmp 43)) rfl ?_; refine wpList_load_mid rfl 46 (.tmp 43) rfl g 0 rfl x.cells.toList _ HDw.out.range Try.underlying46 rfl (by rw [size8]; rfl) ?_; simp only [Act.put, List.setIfInBounds_toArray, List.set_cons_zero, List.set_cons_succ, Array.toArray_toList]) | (refine gate_ (.store 46 (.tmp 5) (.tmp 44)) rfl ?_; refine wpList_plain rfl (fun K hK => ?_); refine wp_store_row 46 (.tmp 5) (.tmp 44) rfl wr.heap.size x.cells rfl rfl 46 (arr .u32 (zs 8)) (heap_alloc_new wr _) (by rw [size8]; rfl) rfl (arr_one .u32 x.l) (hK _ _ ?_); rw [setRow_new]; clear hK K; simp only [Act.put]))
          have hjL : j = 8 ∧ L' = L + 8 := by have := HJ.out; omega
          obtain ⟨rfl, hLe⟩ := hjL
          have HP : Aside0 (RowB w.heap.size 5 (.slice (some ⟨g2, 0, none⟩) L' cap2) (fill2 r n) (wr.alloc (.cells x.cells 46))) := ⟨G1.out.alloc _⟩
          have HS : Aside0 (Row (wr.alloc (.cells x.cells 46)) wr.heap.size 46 (fd x ⟨(fill2 r n).toArray⟩ 0).l) := ⟨Row.new wr 46 x.l⟩
          have HB : Aside0 (Below w.heap.size w (wr.alloc (.cells x.cells 46))) := ⟨G2.out.alloc G2.out.size _⟩
          have hgs : g2 < wr.heap.size := (G1.out.lt g2 rfl).2
          have hgB : w.heap.size ≤ wr.heap.size := G2.out.size
          have hlen : (fill2 r n).length = L' := by unfold fill2; rw [List.length_append, szb_len, hF1.out, hLe]
          have hL64 : 64 * (L' / 64) = L' := by
            have := fill2_64 r n
            rw [hlen] at this
            exact this
          have hcap : L' ≤ cap2 := by
            obtain ⟨_, _, hv, _, _, h1, _⟩ := G1.out.ne (by intro h0; have := congrArg List.length h0; unfold fill1 fill0 at this; simp at this)
            simp only [Value.slice.injEq] at hv
            omega
          have Hlen := Lib.hid hlen
          have HL64 := Lib.hid hL64
          clear G1 G2 HDw HJ hlen hL64 hm hLe
          generalize hWR : wr.alloc (.cells x.cells 46) = w1 at *
          clear hWR
          generalize wr.heap.size = gs at *
          generalize hPL : fill2 r n = PL at *
          have HPL := Lib.hid hPL
          clear hPL
          go_loopg [3] (L' / 64) (fun m v wr => ∃ (A : Option Addr) (k O M c : Nat), v = .slice A M c ∧ M ≤ 208 ∧ M ≤ c ∧ Aside0 (k + m = L' / 64 ∧ M = 64 * m ∧ O = 64 * k ∧ (m ≠ 0 → A = some ⟨g2, O, none⟩)) ∧ Aside0 (RowB w.heap.size 5 (.slice (some ⟨g2, 0, none⟩) L' cap2) PL wr) ∧ Aside0 (Row wr gs 46 (fd x ⟨PL.toArray⟩ k).l) ∧ Aside0 (Below w.heap.size w wr))
          case atStart => exact ⟨_, 0, 0, _, _, rfl, by omega, by omega, ⟨by omega, by have := HL64.out; omega, by omega, fun _ => rfl⟩, HP, HS, HB⟩
          case round =>
            clear HP HS HB
            obtain ⟨A, k, O, M, c, rfl, hM, hMc, HJ, G1, HS, G2⟩ := hrel
            by_cases hm : gk = 0
            · obtain rfl : M = 0 := by have := HJ.out; omega
              obtain rfl : k = L' / 64 := by have := HJ.out.1; omega
              clear HJ hm
              generalize hY : fd x ⟨PL.toArray⟩ (L' / 64) = y at *
              have HY := Lib.hid hY
              clear hY
              have HSa := HS.out.alloc (.cells #[.pointer none, .slice none 0 0] 41)
              go_wp2_with (refine gate_ (.load 46 (.tmp 5)) rfl ?_; refine wpList_load_row rfl 46 (.tmp 5) rfl gs rfl _ y.cells (0, 0) _ HSa Try.underlying46 rfl size8 ?_; simp only [Act.put, List.setIfInBounds_toArray, List.set_cons_zero, List.set_cons_succ])
              have HD0 : Aside0 (Bd (wr.heap.size + 1) wr.heap.size [] (wr.alloc (.cells #[.pointer none, .slice none 0 0] 41))) := ⟨Bd.new _ wr⟩
              have HF0 : Aside0 (Bf (wr.heap.size + 1) wr.heap.size (wr.alloc (.cells #[.pointer none, .slice none 0 0] 41)) (wr.alloc (.cells #[.pointer none, .slice none 0 0] 41))) := ⟨Bf.refl _ _ _⟩
              have HS0 : Aside0 ((wr.alloc (.cells #[.pointer none, .slice none 0 0] 41)).heap.size = wr.heap.size + 1) := ⟨by simp⟩
              have HB0 : Aside0 (Below w.heap.size w (wr.alloc (.cells #[.pointer none, .slice none 0 0] 41))) := ⟨G2.out.alloc G2.out.size _⟩
              have hBs := G2.out.size
              clear HSa HS G1 G2
              generalize wr.alloc (.cells #[.pointer none, .slice none 0 0] 41) = w2 at *
              generalize wr.heap.size = bb at *
              go_loopw [56] (fun i wr => ∃ k : Nat, k ≤ 8 ∧ i = .int .i64 k ∧ Aside0 (Bd (bb + 1) bb (outk y.l k) wr) ∧ Aside0 (Bf (bb + 1) bb w2 wr)) (fun i _ => 8 - (intOf i).toNat)
              case atStart => exact ⟨0, by omega, rfl, HD0, HF0⟩
              case round =>
                clear HD0 HF0
                obtain ⟨k, hk, rfl, HD0, HF0⟩ := hrel
                by_cases hlt : k < 8
                · have hix := index_word y k hlt
                  have hOk : Hid (outk y.l (k + 1) = outk y.l k ++ be4 (y.l.getD k 0)) := Lib.hid rfl
                  have hOl := outk_len y.l k
                  generalize y.l.getD k 0 = xx at *
                  have hbs : bb + 1 ≤ wr.heap.size := by have := HS0.out; have := HF0.out.size; omega
                  go_wp2_with (fail)
                  refine Calls.mono (bWrite (bb + 1) bb (outk y.l k) (be4 xx) _ _ _ (HD0.out.keep (below_alloc (Below.refl _ _) _)) ?_ ?_ ?_ ?_ ?_) ?_
                  · intro j z hz
                    match j, hz with
                    | 0, hz => simp only [be4, List.getElem?_cons_zero, Option.some.injEq] at hz; subst hz; rw [be_byte]; simp [Addr.add]
                    | 1, hz => simp only [be4, List.getElem?_cons_zero, List.getElem?_cons_succ, Option.some.injEq] at hz; subst hz; rw [be_byte]; simp [Addr.add]
                    | 2, hz => simp only [be4, List.getElem?_cons_zero, List.getElem?_cons_succ, Option.some.injEq] at hz; subst hz; rw [be_byte]; simp [Addr.add]
                    | 3, hz => simp only [be4, List.getElem?_cons_zero, List.getElem?_cons_succ, Option.some.injEq] at hz; subst hz; rw [be_byte]; simp [Addr.add]
                    | j + 4, hz => simp [be4] at hz
                  · show wr.heap.size ≠ bb
                    omega
                  · simp [be4]
                  · rw [hOl]; simp [be4]; omega
                  · simp; omega
                  rintro e w3 ⟨rfl, hD3, hF3⟩
                  rw [← hOk.out] at hD3
                  have hF4 := HF0.out.trans ((Bf.of_below (below_alloc (Below.refl _ _) _) hbs).trans hF3)
                  have HD0 := Aside0.mk hD3
                  have HF0 := Aside0.mk hF4
                  clear hD3 hF3 hF4 hix
                  go_wp2_with fail
                  go_roundw
                  case rel => exact ⟨k + 1, by omega, by go_num, HD0, HF0⟩
                  case measure => simp [intOf]; omega
                · obtain rfl : k = 8 := by omega
                  go_wp2_with (fail)
                  have hh := bString (bb + 1) bb (outk y.l 8) wr HD0.out
                  refine Calls.mono hh ?_
                  clear hh
                  rintro e w3 ⟨rfl, hF3⟩
                  go_wp2_with fail
                  go_ret
                  rw [HPL.out, Hlen.out, HY.out]
                  exact ⟨rfl, HB0.out.trans ((HF0.out.trans hF3).below (by omega) (by omega))⟩
            · obtain ⟨m, rfl⟩ : ∃ m, gk = m + 1 := ⟨gk - 1, by omega⟩
              obtain ⟨hk, hM', hO, hA⟩ := HJ.out
              obtain rfl := hA (by omega)
              have hM64 : (64 : Int) ≤ (M : Int) := by omega
              have hc64 : (64 : Int) ≤ (c : Int) := by omega
              have hcx : ∀ (j : Nat) (x : UInt8), ((PL.drop (64 * k)).take 64)[j]? = some x → PL[O + j]? = some x := by
                intro j x hx
                rw [List.getElem?_take] at hx
                split at hx
                · rw [List.getElem?_drop, ← hO] at hx; exact hx
                · cases hx
              have hchl : ((PL.drop (64 * k)).take 64).length = 64 := by
                rw [List.length_take, List.length_drop]
                have := Hlen.out
                have := HL64.out
                omega
              have hchunk : (⟨((PL.drop (64 * k)).take 64).toArray⟩ : ByteArray) = (⟨PL.toArray⟩ : ByteArray).extract (64 * k) (64 * k + 64) := by
                have := B_extract PL (64 * k) (64 * k + 64)
                rw [Nat.add_sub_cancel_left] at this
                exact this.symm
              have hb64 : ((⟨PL.toArray⟩ : ByteArray).extract (64 * k) (64 * k + 64)).size = 64 := by
                rw [← hchunk]
                show ((PL.drop (64 * k)).take 64).toArray.size = 64
                rw [List.size_toArray, hchl]
              have Hhk := Lib.hid hk
              have HhM := Lib.hid hM'
              have HhO := Lib.hid hO
              have Hcx := Lib.hid hcx
              have Hchl := Lib.hid hchl
              have Hchk := Lib.hid hchunk
              have Hb64 := Lib.hid hb64
              have hfd : Hid (fd x ⟨PL.toArray⟩ (k + 1) = bv (fd x ⟨PL.toArray⟩ k) ((⟨PL.toArray⟩ : ByteArray).extract (64 * k) (64 * k + 64))) := Lib.hid rfl
              clear hk hM' hO hA hcx hchl hchunk hb64 hm HJ
              generalize fd x ⟨PL.toArray⟩ k = y at *
              generalize (⟨PL.toArray⟩ : ByteArray).extract (64 * k) (64 * k + 64) = pb at *
              go_wp2_with (fail)
              refine start_ (n := 9) (S := fun w' => Row w' gs 46 y.l ∧ Aside0 (RowB w.heap.size 5 (.slice (some ⟨g2, 0, none⟩) L' cap2) PL w') ∧ Aside0 (Below w.heap.size w w')) (ds := [7]) #[false, false, false, false, false, false, false, false, false] (by kernel_rfl) rfl rfl ⟨(Row.drewN HS.out 1), ⟨G1.out⟩, ⟨Below.drew G2.out⟩⟩ (fun hHeld => ?_)
              refine pure_ (i := 1) (N := some 49) (v := ?_) (a' := ?_) #[false, true, false, false, false, false, false, false, false] rfl rfl (by kernel_rfl) (fun _ _ _ h => h) (Or.inl ⟨by rfl, ?_⟩) ?_ ?_
              rotate_left
              · intro w'
                go_simp
                with_reducible rfl
              rotate_left
              · simp only [Act.put, List.setIfInBounds_toArray, List.set_cons_zero, List.set_cons_succ]
                rfl
              refine pure_ (i := 2) (N := some 50) (v := ?_) (a' := ?_) #[false, true, true, false, false, false, false, false, false] rfl rfl (by kernel_rfl) (fun _ _ _ h => h) (Or.inl ⟨by rfl, ?_⟩) ?_ ?_
              rotate_left
              · intro w'
                go_simp
                with_reducible rfl
              rotate_left
              · simp only [Act.put, List.setIfInBounds_toArray, List.set_cons_zero, List.set_cons_succ]
                rfl
              refine pure_ (i := 5) (N := some 53) (v := ?_) (a' := ?_) #[false, true, true, false, false, true, false, false, false] rfl rfl (by kernel_rfl) (fun _ _ _ h => h) (Or.inl ⟨by rfl, ?_⟩) ?_ ?_
              rotate_left
              · intro w'
                go_simp
                with_reducible rfl
              rotate_left
              · simp only [Act.put, List.setIfInBounds_toArray, List.set_cons_zero, List.set_cons_succ]
                rfl
              refine pure_ (i := 6) (N := some 54) (v := ?_) (a' := ?_) #[false, true, true, false, false, true, true, false, false] rfl rfl (by kernel_rfl) (fun _ _ _ h => h) (Or.inl ⟨by rfl, ?_⟩) ?_ ?_
              rotate_left
              · intro w'
                go_simp
                with_reducible rfl
              rotate_left
              · simp only [Act.put, List.setIfInBounds_toArray, List.set_cons_zero, List.set_cons_succ]
                rfl
              refine take_ (i := 0) (N := some 48) (v := ?_) (a' := ?_) #[true, true, true, false, false, true, true, false, false] rfl rfl (by kernel_rfl) (fun _ _ _ h => h) (Or.inl ⟨by rfl, ?_⟩) hHeld ?_ ?_
              rotate_left
              · rintro w' ⟨s0, s1, s2⟩
                refine load_run _ 46 (.tmp 5) gs _ _ _ s0 Try.underlying46 size8 ?_ ?_ <;> rfl
              rotate_left
              · simp only [Act.put, List.setIfInBounds_toArray, List.set_cons_zero, List.set_cons_succ]
                rfl
              refine take_ (i := 3) (N := some 51) (v := ?_) (a' := ?_) #[true, true, true, true, false, true, true, false, false] rfl rfl (by kernel_rfl) (fun _ _ _ h => h) (Or.inl ⟨by rfl, ?_⟩) hHeld ?_ ?_
              rotate_left
              · rintro w' ⟨s0, s1, s2⟩
                refine conv_run _ (.tmp 50) g2 O c ((PL.drop (64 * k)).take 64) pb _ Hchk.out (fun j x hx => ?_) Hchl.out ?_ ?_
                · exact s1.out.cells (g := g2) rfl (O + j) x (Hcx.out j x hx)
                · rfl
                · rfl
              rotate_left
              · simp only [Act.put, List.setIfInBounds_toArray, List.set_cons_zero, List.set_cons_succ]
                rfl
              refine one_ (i := 4) (N := some 52) #[true, true, true, true, true, true, true, false, false] rfl rfl (by kernel_rfl) (by decide) (fun K hK => ?_)
              refine goes_ Try.func22 (by kernel_rfl) rfl #[.agg y.cells, .string pb] (by rfl) rfl rfl (by simp only [List.map_toArray, List.map_cons, List.map_nil]; rfl) ?_
              with_reducible refine (block_any y _ Hb64.out _).mono ?_
              rintro e w3 ⟨rfl, hb⟩
              refine ⟨_, rfl, ?_⟩
              have HS3 := hHeld.1.keep hb
              have G13 := hHeld.2.1.out.below hb
              have G23 := below2 hHeld.2.2.out hHeld.2.2.out.size hb
              refine hK.out _ _ ⟨HS3, ⟨G13⟩, ⟨G23⟩⟩ (fun hHeld => ?_)
              clear hK K
              refine norm_ (a' := ?_) ?_ ?_
              rotate_left
              · show Act.put _ (some 52) _ = _
                simp only [Act.put, List.setIfInBounds_toArray, List.set_cons_zero, List.set_cons_succ]
                rfl
              refine last_ (i := 7) (N := none) #[true, true, true, true, true, true, true, true, false] rfl rfl (by kernel_rfl) (by decide) (fun K hK => ?_)
              refine skip_ (by rfl) rfl (store_run _ 46 (.tmp 5) (.tmp 52) gs _ hHeld.1 (ys := (bv y pb).l) size8 rfl rfl rfl rfl) ?_
              have HS := Aside0.mk (hHeld.1.put (bv y pb).l)
              have G1 := Aside0.mk (hHeld.2.1.out.past (g := gs) (fun i hi' => (show g2 = i by simpa [Value.ownBlock] using hi') ▸ (by omega : g2 ≠ gs)) (arr .u32 (bv y pb).l))
              have G2 := Aside0.mk (below_setRow hHeld.2.2.out (hgB) (arr .u32 (bv y pb).l))
              clear hHeld HS3 G13 G23 hb
              generalize w3.setRow gs (arr .u32 (bv y pb).l) = w4 at *
              refine hK.out _ _ ?_
              clear hK K
              refine pure_ (i := 8) (N := some 3) (v := ?_) (a' := ?_) #[true, true, true, true, true, true, true, true, true] rfl rfl (by kernel_rfl) (fun _ _ _ h => h) (Or.inl ⟨by rfl, ?_⟩) ?_ ?_
              rotate_left
              · intro w'
                go_simp
                with_reducible rfl
              rotate_left
              · simp only [Act.put, List.setIfInBounds_toArray, List.set_cons_zero, List.set_cons_succ]
                rfl
              refine done_ (by kernel_rfl) ?_
              go_wp2_with fail
              all_goals
                go_roundg m
                case measure => omega
                case rel =>
                  refine ⟨_, k + 1, O + 64, _, _, rfl, by omega, by omega, ⟨by have := Hhk.out; omega, by have := HhM.out; omega, by have := HhO.out; omega, fun h0 => ?_⟩, G1, ⟨by rw [hfd.out]; exact HS.out⟩, G2⟩
                  first | rfl | (exfalso; have := HhM.out; omega)
        · obtain ⟨k, rfl⟩ : ∃ k : Nat, gk = k + 1 := ⟨gk - 1, by omega⟩
          obtain rfl : q = (k : Int) := by have := HJ.out; omega
          have hk7 : (k : Int) ≤ 7 := by have := HJ.out; omega
          have c9 := (HD.out.keep G2.out).c9
          have hw1 : IntKind.u64.wrap (n : Int) = (n : Int) := by rw [IntKind.wrap_u64]; omega
          have hw2 : IntKind.u64.wrap ((n : Int) * 8) = (n : Int) * 8 := by rw [IntKind.wrap_u64]; omega
          have hw3 : IntKind.i64.wrap (8 * (k : Int)) = 8 * (k : Int) := IntWalk.i64_in _ (by omega)
          have hj : j + k = 7 := by have := HJ.out; omega
          have hbv : ((UInt8.ofNat (n * 8 / 2 ^ (8 * k) % 256)).toNat : Int) = (n : Int) * 8 / 2 ^ (8 * k) % 256 := by
            rw [UInt8.toNat_ofNat', Nat.mod_eq_of_lt (Nat.mod_lt _ (by decide))]
            push_cast
            rfl
          have Hbv := Lib.hid hbv
          have HL1 : Hid ((fill1 r ++ szb n j).length = L') := Lib.hid (by rw [List.length_append, hF1.out, szb_len]; have := HJ.out; omega)
          have hS : Hid (fill1 r ++ szb n (j + 1) = (fill1 r ++ szb n j) ++ [UInt8.ofNat (n * 8 / 2 ^ (8 * k) % 256)]) := Lib.hid (by rw [szb, show 7 - j = k by omega, List.append_assoc])
          clear hbv
          go_wp2_with (at_builtin; refine wpList_append_rowB rfl _ _ 31 rfl w.heap.size 5 i0 (by kernel_rfl) hi hz0 hz1 hz2 _ _ [UInt8.ofNat (n * 8 / 2 ^ (8 * k) % 256)] rfl (G1.out.alloc _) ⟨wr.heap.size, 0, none⟩ 1 rfl ?c1 ?c2 ?c3 ?_)
          case c1 =>
            intro j u hj
            match j, hj with
            | 0, hj =>
              simp only [List.getElem?_cons_zero, Option.some.injEq] at hj
              subst hj
              rw [Hbv.out]
              simp [Addr.add]
          case c2 => have := HL1.out; simp only [List.length_cons, List.length_nil]; omega
          case c3 => have := G2.out.size; simp; omega
          intro v' w2 hown' hgrow
          rw [← List.append_assoc] at hown'
          obtain ⟨g3, cap3, rfl⟩ := row_len hown' (L := L') (by rw [List.length_append, HL1.out]; rfl)
          have G2 := Aside0.mk ((G2.out.alloc G2.out.size _).grown hgrow (by have := G2.out.size; simp; omega) (fun k hk => (G1.out.lt k hk).1))
          have G1 := Aside0.mk hown'
          clear hown' hgrow c9 hw1 hw2
          have hw4 : IntKind.i64.wrap ((k : Int) - 1) = (k : Int) - 1 := IntWalk.i64_in _ (by omega)
          go_wp2
          go_roundg k
          case measure => omega
          case rel => exact ⟨_, _, j + 1, _, _, rfl, rfl, by have := HJ.out; omega, ⟨by have := HJ.out; omega⟩, ⟨by rw [hS.out]; exact G1.out⟩, G2⟩
    · have t1 : ¬ (L : Int) % 64 = 56 := by have := HJ.out; unfold pz at this; omega
      have t2 : ((L : Int) % 64 == 56) = false := by simpa using t1
      have t3 : ((L : Int) % 64 != 56) = true := by simp [bne, t2]
      clear t1
      have hl1 : (fill0 r ++ List.replicate j 0).length = L := by rw [List.length_append, List.length_replicate, G3.out]; have := HJ.out; omega
      have HL1 := Lib.hid hl1
      clear hl1
      go_wp2_with (at_builtin; refine wpList_append_rowB rfl _ _ 31 rfl w.heap.size 5 i0 (by kernel_rfl) hi hz0 hz1 hz2 _ _ [0] rfl (G1.out.alloc _) ⟨wr.heap.size, 0, none⟩ 1 rfl ?c1 ?c2 ?c3 ?_)
      case c1 =>
        intro j u hj
        match j, hj with
        | 0, hj => simp at hj; subst hj; simp [Addr.add]
      case c2 => have := HL1.out; simp only [List.length_cons, List.length_nil]; omega
      case c3 => have := G2.out.size; simp; omega
      intro v' w2 hown' hgrow
      rw [← List.append_assoc] at hown'
      obtain ⟨g2, cap2, rfl⟩ := row_len hown' (L := L) (by rw [List.length_append, HL1.out]; rfl)
      have G2 := Aside0.mk ((G2.out.alloc G2.out.size _).grown hgrow (by have := G2.out.size; simp; omega) (fun k hk => (G1.out.lt k hk).1))
      have G1 := Aside0.mk hown'
      clear hown' hgrow
      go_wp2
      go_roundg (gk - 1)
      case measure => omega
      case rel => exact ⟨_, _, j + 1, L + 1, rfl, by have := HJ.out; omega, ⟨by have := HJ.out; omega⟩, ⟨by rw [List.replicate_succ', ← List.append_assoc]; exact G1.out⟩, G2⟩
end Go.Proofs.Ytaobnbmpeplefaa
