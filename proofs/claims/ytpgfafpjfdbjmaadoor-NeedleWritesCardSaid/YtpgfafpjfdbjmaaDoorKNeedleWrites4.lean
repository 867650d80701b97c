/- Lemmas for the law NeedleWrites, merged out of several texts and cut down to what it names, by a program of this session (some of the first ones are of the words that print.sh wrote for this claim). -/
import Derived.Laws.BitsLemmas
import Derived.Test.YtpgfafpjfdbjmaaDoorProg
import Derived.Below
import Derived.WalkKit
import Derived.Lib.Builder
import Derived.Laws.Tables
import Derived.Lib.OthersKept
import Derived.Lib.Hide
import Derived.Deep.LoopGhost
import Derived.Test.YtpgfafpjfdbjmaaDoorKNeedleWrites1
import Derived.Test.YtpgfafpjfdbjmaaDoorKNeedleWrites2
import Derived.Test.YtpgfafpjfdbjmaaDoorKNeedleWrites3
set_option linter.unusedVariables false
set_option linter.unusedSimpArgs false
section
namespace Go.Proofs.YtpgfafpjfdbjmaaDoor
open Go.RowKit Q Go.Proofs.YtpgfafpjfdbjmaaDoorW.PrintWords Go.Proofs.YtpgfafpjfdbjmaaDoorW.PrintLast Go.Proofs.YtpgfafpjfdbjmaaDoorW.PrintMore
theorem row_len {B : Nat} {E : TypeId} {v : Value} {l : List UInt8} {w : World} (h : RowB B E v l w) {L : Nat} (hL : l.length = L + 1) : ∃ g cap, v = .slice (some ⟨g, 0, none⟩) (L + 1) cap := by
  obtain ⟨g, cap, hv, _⟩ := h.ne (by intro h0; rw [h0] at hL; cases hL)
  exact ⟨g, cap, by rw [hv, hL]⟩
theorem RowB.past {B : Nat} {E : TypeId} {v : Value} {l : List UInt8} {w : World} (h : RowB B E v l w) {g : Nat} (hne : ∀ k, v.ownBlock = some k → k ≠ g) (c : Array Value) : RowB B E v l (w.setRow g c) :=
  h.keep (fun k hk => setRow_other w g k c (hne k hk))
theorem conv_run (ev : Operand → Value) (x : Operand) (g off cap : Nat) (l : List UInt8) (s : ByteArray) (W : World) (hs : (⟨l.toArray⟩ : ByteArray) = s) (hc : ∀ j x, l[j]? = some x → W.cell? ⟨g, off + j, none⟩ = some (.int .u8 (x.toNat : Int))) {n : Nat} (hn : l.length = n) (hx : ev x = .slice (some ⟨g, off, none⟩) n cap) {o : Oper} (ho : o.op = .convert 59 9 x) :
    (execOp ev o).run Tryd.prog W = .ok (.value (.string s)) W := by
  subst hs hn
  unfold execOp
  simp only [ho, hx, Sem.run_bind, Result.andThen_ok, run_string_bytes W 59 9 5 Tryd.underlying59 Tryd.underlying5 Tryd.underlying9 g off cap l hc, Sem.run_pure]
def be4 (x : Int) : List UInt8 := [UInt8.ofNat (x / 16777216 % 256).toNat, UInt8.ofNat (x / 65536 % 256).toNat, UInt8.ofNat (x / 256 % 256).toNat, UInt8.ofNat (x % 256).toNat]
def outk (l : List Int) : Nat → List UInt8
  | 0 => []
  | k + 1 => outk l k ++ be4 (l.getD k 0)
theorem outk_len (l : List Int) (k : Nat) : (outk l k).length = 4 * k := by
  induction k with
  | zero => rfl
  | succ k ih => rw [outk, List.length_append, ih]; simp [be4]; omega
theorem be_byte (x : Int) : ((UInt8.ofNat (x % 256).toNat).toNat : Int) = x % 256 := by
  rw [UInt8.toNat_ofNat', Nat.mod_eq_of_lt (by omega)]
  omega
set_option maxRecDepth 100000 in
theorem index_word (y : V8) (k : Nat) (hk : k < 8) (W : World) : (Instr.index 115 (.agg y.cells) (.int .i64 (k : Int))).run Tryd.prog W = .ok (.int .u32 (y.l.getD k 0)) W := by
  match k, hk with
  | 0, _ => rfl
  | 1, _ => rfl
  | 2, _ => rfl
  | 3, _ => rfl
  | 4, _ => rfl
  | 5, _ => rfl
  | 6, _ => rfl
  | 7, _ => rfl
def pz (m : Nat) : Nat := (120 - m % 64) % 64
def szb (n : Nat) : Nat → List UInt8
  | 0 => []
  | j + 1 => szb n j ++ [UInt8.ofNat (n * 8 / 2 ^ (8 * (7 - j)) % 256)]
theorem szb_len (n j : Nat) : (szb n j).length = j := by
  induction j with
  | zero => rfl
  | succ j ih => rw [szb, List.length_append, ih]; rfl
def fill0 (r : ByteArray) : List UInt8 := r.data.toList ++ [128]
def fill1 (r : ByteArray) : List UInt8 := fill0 r ++ List.replicate (pz (fill0 r).length) 0
def fill2 (r : ByteArray) (n : Nat) : List UInt8 := fill1 r ++ szb n 8
theorem fill2_64 (r : ByteArray) (n : Nat) : 64 * ((fill2 r n).length / 64) = (fill2 r n).length := by
  unfold fill2 fill1
  rw [List.length_append, List.length_append, szb_len, List.length_replicate]
  unfold pz
  omega
set_option maxRecDepth 100000 in
set_option maxHeartbeats 1000000 in
theorem dsum_calls (g : Nat) (x : V8) (r : ByteArray) (n : Nat) (w : World) (h : DSt w g x r n) (hr : r.size ≤ 64) (hn : n ≤ 140737488355328) :
    Calls Tryd.prog 50 #[.pointer (some ⟨g, 0, none⟩)] w fun e w' => e = .returned (.string ⟨(outk (fd x ⟨(fill2 r n).toArray⟩ ((fill2 r n).length / 64)).l 8).toArray⟩) ∧ Below w.heap.size w w' := by
  obtain ⟨i0, hi, hz0, hz1, hz2⟩ := info8
  have HD := Aside0.mk h
  have HG := Aside0.mk h.lt
  have c8 := h.c8
  clear h
  have hcv := fun (W : World) => Lib.run_convert_string_bytes (P := Tryd.prog) W 9 59 5 (r ++ ⟨#[128]⟩) Tryd.underlying9 Tryd.underlying59 Tryd.underlying5
  have hsz : (r ++ ⟨#[128]⟩ : ByteArray).size = r.size + 1 := by rw [ByteArray.size_append]; rfl
  have hR := RowB.bytes w 5 (r ++ ⟨#[128]⟩) (by rw [hsz]; unfold maxLen; omega)
  have hBel := RowB.bytesBelow w 5 (r ++ ⟨#[128]⟩)
  have e0 : (r ++ ⟨#[128]⟩ : ByteArray).data.toList = fill0 r := by
    show (ByteArray.append r ⟨#[128]⟩).data.toList = _
    simp [fill0, ByteArray.append_eq]
  rw [e0] at hR
  have hl0 : (fill0 r).length = r.size + 1 := by rw [← e0, Array.length_toList]; exact hsz
  have G1 := Aside0.mk hR
  have G2 := Aside0.mk hBel
  have G3 := Lib.hid hl0
  clear hR hBel hl0 e0
  go_enter Tryd.func50, Tryd.ntmps50
  go_wp2_with fail
  have G2 := G2.out
  have G1 := G1.out
  rw [hsz] at G1
  have HZ : pz (r.size + 1) < 64 := by unfold pz; omega
  generalize Lib.bytesWorld w 5 (r ++ ⟨#[128]⟩) = w1 at *
  generalize grownCap w (r.size + 1) 0 5 = cap1 at *
  have G1 := Aside0.mk G1
  have G2 := Aside0.mk G2
  clear hcv c8 hsz
  go_loopg [3] (pz (r.size + 1)) (fun m v wr => ∃ g1 cap j L : Nat, v = .slice (some ⟨g1, 0, none⟩) L cap ∧ L ≤ 200 ∧ Aside0 (j + m = pz (r.size + 1) ∧ L = r.size + 1 + j) ∧ Aside0 (RowB w.heap.size 5 (.slice (some ⟨g1, 0, none⟩) L cap) (fill0 r ++ List.replicate j 0) wr) ∧ Aside0 (Below w.heap.size w wr))
  case atStart => exact ⟨_, _, 0, _, rfl, by omega, ⟨by omega, by omega⟩, ⟨by rw [List.replicate_zero, List.append_nil]; exact G1.out⟩, G2⟩
  case round =>
    clear G1 G2
    obtain ⟨g1, cap, j, L, rfl, hL, HJ, G1, G2⟩ := hrel
    by_cases hm : gk = 0
    · have t1 : (L : Int) % 64 = 56 := by have := HJ.out; unfold pz at this; omega
      have t2 : ((L : Int) % 64 == 56) = true := by rw [t1]; rfl
      have t3 : ((L : Int) % 64 != 56) = false := by rw [t1]; rfl
      clear t1
      go_wp2_with fail
      have hj : j = pz (r.size + 1) ∧ L = r.size + 1 + pz (r.size + 1) := by have := HJ.out; omega
      obtain ⟨rfl, hLe⟩ := hj
      have G1 : Aside0 (RowB w.heap.size 5 (.slice (some ⟨g1, 0, none⟩) L cap) (fill1 r ++ szb n 0) wr) := ⟨by
        have := G1.out
        unfold fill1 szb
        rw [List.append_nil, G3.out]
        exact this⟩
      have hF1 : Hid ((fill1 r).length = L) := Lib.hid (by unfold fill1; rw [List.length_append, List.length_replicate, G3.out, hLe])
      clear HJ t2 t3 hLe hm
      go_loopg [3, 4] 8 (fun m v i wr => ∃ g1 cap j L' : Nat, ∃ q : Int, v = .slice (some ⟨g1, 0, none⟩) L' cap ∧ i = .int .i64 q ∧ L' ≤ 208 ∧ Aside0 (j + m = 8 ∧ L' = L + j ∧ q = (m : Int) - 1) ∧ Aside0 (RowB w.heap.size 5 (.slice (some ⟨g1, 0, none⟩) L' cap) (fill1 r ++ szb n j) wr) ∧ Aside0 (Below w.heap.size w wr))
      case atStart => exact ⟨_, _, 0, _, _, rfl, rfl, by omega, ⟨by omega, by omega, by omega⟩, G1, G2⟩
      case round =>
        clear G1 G2
        obtain ⟨g2, cap2, j, L', q, rfl, rfl, hL', HJ, G1, G2⟩ := hrel
        by_cases hm : gk = 0
        · obtain rfl : q = -1 := by have := HJ.out; omega
          have hz8 := zero8
          have hDw := HD.out.keep G2.out
          have HDw := Aside0.mk hDw
          clear hDw
          go_wp2_with (first | (refine gate_ (.load 115 (.tmp 43)) rfl ?_; refine wpList_load_mid rfl 115 (.tmp 43) rfl g 0 rfl x.cells.toList _ HDw.out.range Tryd.underlying115 rfl (by rw [size8]; rfl) ?_; simp only [Act.put, List.setIfInBounds_toArray, List.set_cons_zero, List.set_cons_succ, Array.toArray_toList]) | (refine gate_ (.store 115 (.tmp 5) (.tmp 44)) rfl ?_; refine wpList_plain rfl (fun K hK => ?_); refine wp_store_row 115 (.tmp 5) (.tmp 44) rfl wr.heap.size x.cells rfl rfl 115 (arr .u32 (zs 8)) (heap_alloc_new wr _) (by rw [size8]; rfl) rfl (arr_one .u32 x.l) (hK _ _ ?_); rw [setRow_new]; clear hK K; simp only [Act.put]))
          have hjL : j = 8 ∧ L' = L + 8 := by have := HJ.out; omega
          obtain ⟨rfl, hLe⟩ := hjL
          have HP : Aside0 (RowB w.heap.size 5 (.slice (some ⟨g2, 0, none⟩) L' cap2) (fill2 r n) (wr.alloc (.cells x.cells 115))) := ⟨G1.out.alloc _⟩
          have HS : Aside0 (Row (wr.alloc (.cells x.cells 115)) wr.heap.size 115 (fd x ⟨(fill2 r n).toArray⟩ 0).l) := ⟨Row.new wr 115 x.l⟩
          have HB : Aside0 (Below w.heap.size w (wr.alloc (.cells x.cells 115))) := ⟨G2.out.alloc G2.out.size _⟩
          have hgs : g2 < wr.heap.size := (G1.out.lt g2 rfl).2
          have hgB : w.heap.size ≤ wr.heap.size := G2.out.size
          have hlen : (fill2 r n).length = L' := by unfold fill2; rw [List.length_append, szb_len, hF1.out, hLe]
          have hL64 : 64 * (L' / 64) = L' := by
            have := fill2_64 r n
            rw [hlen] at this
            exact this
          have hcap : L' ≤ cap2 := by
            obtain ⟨_, _, hv, _, _, h1, _⟩ := G1.out.ne (by intro h0; have := congrArg List.length h0; unfold fill1 fill0 at this; simp at this)
            simp only [Value.slice.injEq] at hv
            omega
          have Hlen := Lib.hid hlen
          have HL64 := Lib.hid hL64
          clear G1 G2 HDw HJ hlen hL64 hm hLe
          generalize hWR : wr.alloc (.cells x.cells 115) = w1 at *
          clear hWR
          generalize wr.heap.size = gs at *
          generalize hPL : fill2 r n = PL at *
          have HPL := Lib.hid hPL
          clear hPL
          go_loopg [3] (L' / 64) (fun m v wr => ∃ (A : Option Addr) (k O M c : Nat), v = .slice A M c ∧ M ≤ 208 ∧ M ≤ c ∧ Aside0 (k + m = L' / 64 ∧ M = 64 * m ∧ O = 64 * k ∧ (m ≠ 0 → A = some ⟨g2, O, none⟩)) ∧ Aside0 (RowB w.heap.size 5 (.slice (some ⟨g2, 0, none⟩) L' cap2) PL wr) ∧ Aside0 (Row wr gs 115 (fd x ⟨PL.toArray⟩ k).l) ∧ Aside0 (Below w.heap.size w wr))
          case atStart => exact ⟨_, 0, 0, _, _, rfl, by omega, by omega, ⟨by omega, by have := HL64.out; omega, by omega, fun _ => rfl⟩, HP, HS, HB⟩
          case round =>
            clear HP HS HB
            obtain ⟨A, k, O, M, c, rfl, hM, hMc, HJ, G1, HS, G2⟩ := hrel
            by_cases hm : gk = 0
            · obtain rfl : M = 0 := by have := HJ.out; omega
              obtain rfl : k = L' / 64 := by have := HJ.out.1; omega
              clear HJ hm
              generalize hY : fd x ⟨PL.toArray⟩ (L' / 64) = y at *
              have HY := Lib.hid hY
              clear hY
              have HSa := HS.out.alloc (.cells #[.pointer none, .slice none 0 0] 101)
              go_wp2_with (refine gate_ (.load 115 (.tmp 5)) rfl ?_; refine wpList_load_row rfl 115 (.tmp 5) rfl gs rfl _ y.cells (0, 0) _ HSa Tryd.underlying115 rfl size8 ?_; simp only [Act.put, List.setIfInBounds_toArray, List.set_cons_zero, List.set_cons_succ])
              have HD0 : Aside0 (Bd (wr.heap.size + 1) wr.heap.size [] (wr.alloc (.cells #[.pointer none, .slice none 0 0] 101))) := ⟨Bd.new _ wr⟩
              have HF0 : Aside0 (Bf (wr.heap.size + 1) wr.heap.size (wr.alloc (.cells #[.pointer none, .slice none 0 0] 101)) (wr.alloc (.cells #[.pointer none, .slice none 0 0] 101))) := ⟨Bf.refl _ _ _⟩
              have HS0 : Aside0 ((wr.alloc (.cells #[.pointer none, .slice none 0 0] 101)).heap.size = wr.heap.size + 1) := ⟨by simp⟩
              have HB0 : Aside0 (Below w.heap.size w (wr.alloc (.cells #[.pointer none, .slice none 0 0] 101))) := ⟨G2.out.alloc G2.out.size _⟩
              have hBs := G2.out.size
              clear HSa HS G1 G2
              generalize wr.alloc (.cells #[.pointer none, .slice none 0 0] 101) = w2 at *
              generalize wr.heap.size = bb at *
              go_loopw [56] (fun i wr => ∃ k : Nat, k ≤ 8 ∧ i = .int .i64 k ∧ Aside0 (Bd (bb + 1) bb (outk y.l k) wr) ∧ Aside0 (Bf (bb + 1) bb w2 wr)) (fun i _ => 8 - (intOf i).toNat)
              case atStart => exact ⟨0, by omega, rfl, HD0, HF0⟩
              case round =>
                clear HD0 HF0
                obtain ⟨k, hk, rfl, HD0, HF0⟩ := hrel
                by_cases hlt : k < 8
                · have hix := index_word y k hlt
                  have hOk : Hid (outk y.l (k + 1) = outk y.l k ++ be4 (y.l.getD k 0)) := Lib.hid rfl
                  have hOl := outk_len y.l k
                  generalize y.l.getD k 0 = xx at *
                  have hbs : bb + 1 ≤ wr.heap.size := by have := HS0.out; have := HF0.out.size; omega
                  go_wp2_with (fail)
                  refine Calls.mono (bWrite (bb + 1) bb (outk y.l k) (be4 xx) _ _ _ (HD0.out.keep (below_alloc (Below.refl _ _) _)) ?_ ?_ ?_ ?_ ?_) ?_
                  · intro j z hz
                    match j, hz with
                    | 0, hz => simp only [be4, List.getElem?_cons_zero, Option.some.injEq] at hz; subst hz; rw [be_byte]; simp [Addr.add]
                    | 1, hz => simp only [be4, List.getElem?_cons_zero, List.getElem?_cons_succ, Option.some.injEq] at hz; subst hz; rw [be_byte]; simp [Addr.add]
                    | 2, hz => simp only [be4, List.getElem?_cons_zero, List.getElem?_cons_succ, Option.some.injEq] at hz; subst hz; rw [be_byte]; simp [Addr.add]
                    | 3, hz => simp only [be4, List.getElem?_cons_zero, List.getElem?_cons_succ, Option.some.injEq] at hz; subst hz; rw [be_byte]; simp [Addr.add]
                    | j + 4, hz => simp [be4] at hz
                  · show wr.heap.size ≠ bb
                    omega
                  · simp [be4]
                  · rw [hOl]; simp [be4]; omega
                  · simp; omega
                  rintro e w3 ⟨rfl, hD3, hF3⟩
                  rw [← hOk.out] at hD3
                  have hF4 := HF0.out.trans ((Bf.of_below (below_alloc (Below.refl _ _) _) hbs).trans hF3)
                  have HD0 := Aside0.mk hD3
                  have HF0 := Aside0.mk hF4
                  clear hD3 hF3 hF4 hix
                  go_wp2_with fail
                  go_roundw
                  case rel => exact ⟨k + 1, by omega, by go_num, HD0, HF0⟩
                  case measure => simp [intOf]; omega
                · obtain rfl : k = 8 := by omega
                  go_wp2_with (fail)
                  have hh := bString (bb + 1) bb (outk y.l 8) wr HD0.out
                  refine Calls.mono hh ?_
                  clear hh
                  rintro e w3 ⟨rfl, hF3⟩
                  go_wp2_with fail
                  go_ret
                  rw [HPL.out, Hlen.out, HY.out]
                  exact ⟨rfl, HB0.out.trans ((HF0.out.trans hF3).below (by omega) (by omega))⟩
            · obtain ⟨m, rfl⟩ : ∃ m, gk = m + 1 := ⟨gk - 1, by omega⟩
              obtain ⟨hk, hM', hO, hA⟩ := HJ.out
              obtain rfl := hA (by omega)
              have hM64 : (64 : Int) ≤ (M : Int) := by omega
              have hc64 : (64 : Int) ≤ (c : Int) := by omega
              have hcx : ∀ (j : Nat) (x : UInt8), ((PL.drop (64 * k)).take 64)[j]? = some x → PL[O + j]? = some x := by
                intro j x hx
                rw [List.getElem?_take] at hx
                split at hx
                · rw [List.getElem?_drop, ← hO] at hx; exact hx
                · cases hx
              have hchl : ((PL.drop (64 * k)).take 64).length = 64 := by
                rw [List.length_take, List.length_drop]
                have := Hlen.out
                have := HL64.out
                omega
              have hchunk : (⟨((PL.drop (64 * k)).take 64).toArray⟩ : ByteArray) = (⟨PL.toArray⟩ : ByteArray).extract (64 * k) (64 * k + 64) := by
                have := B_extract PL (64 * k) (64 * k + 64)
                rw [Nat.add_sub_cancel_left] at this
                exact this.symm
              have hb64 : ((⟨PL.toArray⟩ : ByteArray).extract (64 * k) (64 * k + 64)).size = 64 := by
                rw [← hchunk]
                show ((PL.drop (64 * k)).take 64).toArray.size = 64
                rw [List.size_toArray, hchl]
              have Hhk := Lib.hid hk
              have HhM := Lib.hid hM'
              have HhO := Lib.hid hO
              have Hcx := Lib.hid hcx
              have Hchl := Lib.hid hchl
              have Hchk := Lib.hid hchunk
              have Hb64 := Lib.hid hb64
              have hfd : Hid (fd x ⟨PL.toArray⟩ (k + 1) = bv (fd x ⟨PL.toArray⟩ k) ((⟨PL.toArray⟩ : ByteArray).extract (64 * k) (64 * k + 64))) := Lib.hid rfl
              clear hk hM' hO hA hcx hchl hchunk hb64 hm HJ
              generalize fd x ⟨PL.toArray⟩ k = y at *
              generalize (⟨PL.toArray⟩ : ByteArray).extract (64 * k) (64 * k + 64) = pb at *
              go_wp2_with (fail)
              refine start_ (n := 9) (S := fun w' => Row w' gs 115 y.l ∧ Aside0 (RowB w.heap.size 5 (.slice (some ⟨g2, 0, none⟩) L' cap2) PL w') ∧ Aside0 (Below w.heap.size w w')) (ds := [7]) #[false, false, false, false, false, false, false, false, false] (by kernel_rfl) rfl rfl ⟨(Row.drewN HS.out 1), ⟨G1.out⟩, ⟨Below.drew G2.out⟩⟩ (fun hHeld => ?_)
              refine pure_ (i := 1) (N := some 49) (v := ?_) (a' := ?_) #[false, true, false, false, false, false, false, false, false] rfl rfl (by kernel_rfl) (fun _ _ _ h => h) (Or.inl ⟨by rfl, ?_⟩) ?_ ?_
              rotate_left
              · intro w'
                go_simp
                with_reducible rfl
              rotate_left
              · simp only [Act.put, List.setIfInBounds_toArray, List.set_cons_zero, List.set_cons_succ]
                rfl
              refine pure_ (i := 2) (N := some 50) (v := ?_) (a' := ?_) #[false, true, true, false, false, false, false, false, false] rfl rfl (by kernel_rfl) (fun _ _ _ h => h) (Or.inl ⟨by rfl, ?_⟩) ?_ ?_
              rotate_left
              · intro w'
                go_simp
                with_reducible rfl
              rotate_left
              · simp only [Act.put, List.setIfInBounds_toArray, List.set_cons_zero, List.set_cons_succ]
                rfl
              refine pure_ (i := 5) (N := some 53) (v := ?_) (a' := ?_) #[false, true, true, false, false, true, false, false, false] rfl rfl (by kernel_rfl) (fun _ _ _ h => h) (Or.inl ⟨by rfl, ?_⟩) ?_ ?_
              rotate_left
              · intro w'
                go_simp
                with_reducible rfl
              rotate_left
              · simp only [Act.put, List.setIfInBounds_toArray, List.set_cons_zero, List.set_cons_succ]
                rfl
              refine pure_ (i := 6) (N := some 54) (v := ?_) (a' := ?_) #[false, true, true, false, false, true, true, false, false] rfl rfl (by kernel_rfl) (fun _ _ _ h => h) (Or.inl ⟨by rfl, ?_⟩) ?_ ?_
              rotate_left
              · intro w'
                go_simp
                with_reducible rfl
              rotate_left
              · simp only [Act.put, List.setIfInBounds_toArray, List.set_cons_zero, List.set_cons_succ]
                rfl
              refine take_ (i := 0) (N := some 48) (v := ?_) (a' := ?_) #[true, true, true, false, false, true, true, false, false] rfl rfl (by kernel_rfl) (fun _ _ _ h => h) (Or.inl ⟨by rfl, ?_⟩) hHeld ?_ ?_
              rotate_left
              · rintro w' ⟨s0, s1, s2⟩
                refine load_run _ 115 (.tmp 5) gs _ _ _ s0 Tryd.underlying115 size8 ?_ ?_ <;> rfl
              rotate_left
              · simp only [Act.put, List.setIfInBounds_toArray, List.set_cons_zero, List.set_cons_succ]
                rfl
              refine take_ (i := 3) (N := some 51) (v := ?_) (a' := ?_) #[true, true, true, true, false, true, true, false, false] rfl rfl (by kernel_rfl) (fun _ _ _ h => h) (Or.inl ⟨by rfl, ?_⟩) hHeld ?_ ?_
              rotate_left
              · rintro w' ⟨s0, s1, s2⟩
                refine conv_run _ (.tmp 50) g2 O c ((PL.drop (64 * k)).take 64) pb _ Hchk.out (fun j x hx => ?_) Hchl.out ?_ ?_
                · exact s1.out.cells (g := g2) rfl (O + j) x (Hcx.out j x hx)
                · rfl
                · rfl
              rotate_left
              · simp only [Act.put, List.setIfInBounds_toArray, List.set_cons_zero, List.set_cons_succ]
                rfl
              refine one_ (i := 4) (N := some 52) #[true, true, true, true, true, true, true, false, false] rfl rfl (by kernel_rfl) (by decide) (fun K hK => ?_)
              refine goes_ Tryd.func73 (by kernel_rfl) rfl #[.agg y.cells, .string pb] (by rfl) rfl rfl (by simp only [List.map_toArray, List.map_cons, List.map_nil]; rfl) ?_
              with_reducible refine (block_any y _ Hb64.out _).mono ?_
              rintro e w3 ⟨rfl, hb⟩
              refine ⟨_, rfl, ?_⟩
              have HS3 := hHeld.1.keep hb
              have G13 := hHeld.2.1.out.below hb
              have G23 := below2 hHeld.2.2.out hHeld.2.2.out.size hb
              refine hK.out _ _ ⟨HS3, ⟨G13⟩, ⟨G23⟩⟩ (fun hHeld => ?_)
              clear hK K
              refine norm_ (a' := ?_) ?_ ?_
              rotate_left
              · show Act.put _ (some 52) _ = _
                simp only [Act.put, List.setIfInBounds_toArray, List.set_cons_zero, List.set_cons_succ]
                rfl
              refine last_ (i := 7) (N := none) #[true, true, true, true, true, true, true, true, false] rfl rfl (by kernel_rfl) (by decide) (fun K hK => ?_)
              refine skip_ (by rfl) rfl (store_run _ 115 (.tmp 5) (.tmp 52) gs _ hHeld.1 (ys := (bv y pb).l) size8 rfl rfl rfl rfl) ?_
              have HS := Aside0.mk (hHeld.1.put (bv y pb).l)
              have G1 := Aside0.mk (hHeld.2.1.out.past (g := gs) (fun i hi' => (show g2 = i by simpa [Value.ownBlock] using hi') ▸ (by omega : g2 ≠ gs)) (arr .u32 (bv y pb).l))
              have G2 := Aside0.mk (below_setRow hHeld.2.2.out (hgB) (arr .u32 (bv y pb).l))
              clear hHeld HS3 G13 G23 hb
              generalize w3.setRow gs (arr .u32 (bv y pb).l) = w4 at *
              refine hK.out _ _ ?_
              clear hK K
              refine pure_ (i := 8) (N := some 3) (v := ?_) (a' := ?_) #[true, true, true, true, true, true, true, true, true] rfl rfl (by kernel_rfl) (fun _ _ _ h => h) (Or.inl ⟨by rfl, ?_⟩) ?_ ?_
              rotate_left
              · intro w'
                go_simp
                with_reducible rfl
              rotate_left
              · simp only [Act.put, List.setIfInBounds_toArray, List.set_cons_zero, List.set_cons_succ]
                rfl
              refine done_ (by kernel_rfl) ?_
              go_wp2_with fail
              all_goals
                go_roundg m
                case measure => omega
                case rel =>
                  refine ⟨_, k + 1, O + 64, _, _, rfl, by omega, by omega, ⟨by have := Hhk.out; omega, by have := HhM.out; omega, by have := HhO.out; omega, fun h0 => ?_⟩, G1, ⟨by rw [hfd.out]; exact HS.out⟩, G2⟩
                  first | rfl | (exfalso; have := HhM.out; omega)
        · obtain ⟨k, rfl⟩ : ∃ k : Nat, gk = k + 1 := ⟨gk - 1, by omega⟩
          obtain rfl : q = (k : Int) := by have := HJ.out; omega
          have hk7 : (k : Int) ≤ 7 := by have := HJ.out; omega
          have c9 := (HD.out.keep G2.out).c9
          have hw1 : IntKind.u64.wrap (n : Int) = (n : Int) := by rw [IntKind.wrap_u64]; omega
          have hw2 : IntKind.u64.wrap ((n : Int) * 8) = (n : Int) * 8 := by rw [IntKind.wrap_u64]; omega
          have hw3 : IntKind.i64.wrap (8 * (k : Int)) = 8 * (k : Int) := IntWalk.i64_in _ (by omega)
          have hj : j + k = 7 := by have := HJ.out; omega
          have hbv : ((UInt8.ofNat (n * 8 / 2 ^ (8 * k) % 256)).toNat : Int) = (n : Int) * 8 / 2 ^ (8 * k) % 256 := by
            rw [UInt8.toNat_ofNat', Nat.mod_eq_of_lt (Nat.mod_lt _ (by decide))]
            push_cast
            rfl
          have Hbv := Lib.hid hbv
          have HL1 : Hid ((fill1 r ++ szb n j).length = L') := Lib.hid (by rw [List.length_append, hF1.out, szb_len]; have := HJ.out; omega)
          have hS : Hid (fill1 r ++ szb n (j + 1) = (fill1 r ++ szb n j) ++ [UInt8.ofNat (n * 8 / 2 ^ (8 * k) % 256)]) := Lib.hid (by rw [szb, show 7 - j = k by omega, List.append_assoc])
          clear hbv
          go_wp2_with (at_builtin; refine wpList_append_rowB rfl _ _ 59 rfl w.heap.size 5 i0 (by kernel_rfl) hi hz0 hz1 hz2 _ _ [UInt8.ofNat (n * 8 / 2 ^ (8 * k) % 256)] rfl (G1.out.alloc _) ⟨wr.heap.size, 0, none⟩ 1 rfl ?c1 ?c2 ?c3 ?_)
          case c1 =>
            intro j u hj
            match j, hj with
            | 0, hj =>
              simp only [List.getElem?_cons_zero, Option.some.injEq] at hj
              subst hj
              rw [Hbv.out]
              simp [Addr.add]
          case c2 => have := HL1.out; simp only [List.length_cons, List.length_nil]; omega
          case c3 => have := G2.out.size; simp; omega
          intro v' w2 hown' hgrow
          rw [← List.append_assoc] at hown'
          obtain ⟨g3, cap3, rfl⟩ := row_len hown' (L := L') (by rw [List.length_append, HL1.out]; rfl)
          have G2 := Aside0.mk ((G2.out.alloc G2.out.size _).grown hgrow (by have := G2.out.size; simp; omega) (fun k hk => (G1.out.lt k hk).1))
          have G1 := Aside0.mk hown'
          clear hown' hgrow c9 hw1 hw2
          have hw4 : IntKind.i64.wrap ((k : Int) - 1) = (k : Int) - 1 := IntWalk.i64_in _ (by omega)
          go_wp2
          go_roundg k
          case measure => omega
          case rel => exact ⟨_, _, j + 1, _, _, rfl, rfl, by have := HJ.out; omega, ⟨by have := HJ.out; omega⟩, ⟨by rw [hS.out]; exact G1.out⟩, G2⟩
    · have t1 : ¬ (L : Int) % 64 = 56 := by have := HJ.out; unfold pz at this; omega
      have t2 : ((L : Int) % 64 == 56) = false := by simpa using t1
      have t3 : ((L : Int) % 64 != 56) = true := by simp [bne, t2]
      clear t1
      have hl1 : (fill0 r ++ List.replicate j 0).length = L := by rw [List.length_append, List.length_replicate, G3.out]; have := HJ.out; omega
      have HL1 := Lib.hid hl1
      clear hl1
      go_wp2_with (at_builtin; refine wpList_append_rowB rfl _ _ 59 rfl w.heap.size 5 i0 (by kernel_rfl) hi hz0 hz1 hz2 _ _ [0] rfl (G1.out.alloc _) ⟨wr.heap.size, 0, none⟩ 1 rfl ?c1 ?c2 ?c3 ?_)
      case c1 =>
        intro j u hj
        match j, hj with
        | 0, hj => simp at hj; subst hj; simp [Addr.add]
      case c2 => have := HL1.out; simp only [List.length_cons, List.length_nil]; omega
      case c3 => have := G2.out.size; simp; omega
      intro v' w2 hown' hgrow
      rw [← List.append_assoc] at hown'
      obtain ⟨g2, cap2, rfl⟩ := row_len hown' (L := L) (by rw [List.length_append, HL1.out]; rfl)
      have G2 := Aside0.mk ((G2.out.alloc G2.out.size _).grown hgrow (by have := G2.out.size; simp; omega) (fun k hk => (G1.out.lt k hk).1))
      have G1 := Aside0.mk hown'
      clear hown' hgrow
      go_wp2
      go_roundg (gk - 1)
      case measure => omega
      case rel => exact ⟨_, _, j + 1, L + 1, rfl, by have := HJ.out; omega, ⟨by have := HJ.out; omega⟩, ⟨by rw [List.replicate_succ', ← List.append_assoc]; exact G1.out⟩, G2⟩
end Go.Proofs.YtpgfafpjfdbjmaaDoor
end
section
namespace Go.Proofs.YtpgfafpjfdbjmaaDoor
open Go.RowKit Q Go.Proofs.YtpgfafpjfdbjmaaDoorW.PrintWords Go.Proofs.YtpgfafpjfdbjmaaDoorW.PrintLast Go.Proofs.YtpgfafpjfdbjmaaDoorW.PrintMore
set_option maxRecDepth 100000 in
set_option maxHeartbeats 1000000 in
theorem filled_calls (s : ByteArray) (hs : s.size ≤ 17592186044416) (w : World) :
    Calls Tryd.prog 57 #[.string s] w fun e w' => ∃ g cap : Nat, e = .returned (.slice (some ⟨g, 0, none⟩) (fill2 s s.size).length cap) ∧ RowB w.heap.size 5 (.slice (some ⟨g, 0, none⟩) (fill2 s s.size).length cap) (fill2 s s.size) w' ∧ Below w.heap.size w w' := by
  obtain ⟨i0, hi, hz0, hz1, hz2⟩ := info8
  have hcv := fun (W : World) => Lib.run_convert_string_bytes (P := Tryd.prog) W 9 59 5 s Tryd.underlying9 Tryd.underlying59 Tryd.underlying5
  have hR := RowB.bytes w 5 s (by unfold maxLen; omega)
  have hBel := RowB.bytesBelow w 5 s
  have hl0 : (fill0 s).length = s.size + 1 := by unfold fill0; rw [List.length_append, Array.length_toList]; rfl
  have G1 := Aside0.mk hR
  have G2 := Aside0.mk hBel
  have G3 := Lib.hid hl0
  clear hR hBel hl0
  go_enter Tryd.func57, Tryd.ntmps57
  go_upto_region 2 with (fail)
  generalize hw1 : Lib.bytesWorld w 5 s = w1 at *
  generalize grownCap w s.size 0 5 = cap1 at *
  clear hcv hw1
  go_wp2_with (at_builtin; refine wpList_append_rowB rfl _ _ 59 rfl w.heap.size 5 i0 (by kernel_rfl) hi hz0 hz1 hz2 _ _ [128] rfl (G1.out.alloc _) ⟨w1.heap.size, 0, none⟩ 1 rfl ?c1 ?c2 ?c3 ?_)
  case c1 =>
    intro j u hj
    match j, hj with
    | 0, hj => simp at hj; subst hj; simp [Addr.add]
  case c2 => rw [Array.length_toList]; simp only [List.length_cons, List.length_nil]; have : s.data.size = s.size := rfl; omega
  case c3 => have := G2.out.size; simp; omega
  intro v' w2 hown' hgrow
  obtain ⟨g2, cap2, rfl⟩ := row_len hown' (L := s.size) (by rw [List.length_append, Array.length_toList]; rfl)
  have G2 := Aside0.mk ((G2.out.alloc G2.out.size _).grown hgrow (by have := G2.out.size; simp; omega) (fun k hk => (G1.out.lt k hk).1))
  have G1 := Aside0.mk (show RowB w.heap.size 5 (.slice (some ⟨g2, 0, none⟩) (s.size + 1) cap2) (fill0 s) w2 from hown')
  clear hown' hgrow
  have HZ : pz (s.size + 1) < 64 := by unfold pz; omega
  go_wp2_with fail
  go_loopg [3] (pz (s.size + 1)) (fun m v wr => ∃ g1 cap j L : Nat, v = .slice (some ⟨g1, 0, none⟩) L cap ∧ L ≤ 17592186044500 ∧ Aside0 (j + m = pz (s.size + 1) ∧ L = s.size + 1 + j) ∧ Aside0 (RowB w.heap.size 5 (.slice (some ⟨g1, 0, none⟩) L cap) (fill0 s ++ List.replicate j 0) wr) ∧ Aside0 (Below w.heap.size w wr))
  case atStart => exact ⟨_, _, 0, _, rfl, by omega, ⟨by omega, by omega⟩, ⟨by rw [List.replicate_zero, List.append_nil]; exact G1.out⟩, G2⟩
  case round =>
    clear G1 G2
    obtain ⟨g1, cap, j, L, rfl, hL, HJ, G1, G2⟩ := hrel
    by_cases hm : gk = 0
    · have t1 : (L : Int) % 64 = 56 := by have := HJ.out; unfold pz at this; omega
      have t2 : ((L : Int) % 64 == 56) = true := by rw [t1]; rfl
      have t3 : ((L : Int) % 64 != 56) = false := by rw [t1]; rfl
      clear t1
      have hw8 : IntKind.i64.wrap (8 * (s.size : Int)) = 8 * (s.size : Int) := IntWalk.i64_in _ (by omega)
      go_wp2_with fail
      have hj : j = pz (s.size + 1) ∧ L = s.size + 1 + pz (s.size + 1) := by have := HJ.out; omega
      obtain ⟨rfl, hLe⟩ := hj
      have G1 : Aside0 (RowB w.heap.size 5 (.slice (some ⟨g1, 0, none⟩) L cap) (fill1 s ++ szb s.size 0) wr) := ⟨by
        have := G1.out
        unfold fill1 szb
        rw [List.append_nil, G3.out]
        exact this⟩
      have hF1 : Hid ((fill1 s).length = L) := Lib.hid (by unfold fill1; rw [List.length_append, List.length_replicate, G3.out, hLe])
      clear HJ t2 t3 hLe hm hw8
      go_loopg [3, 5] 8 (fun m v i wr => ∃ g1 cap j L' : Nat, ∃ q : Int, v = .slice (some ⟨g1, 0, none⟩) L' cap ∧ i = .int .i64 q ∧ L' ≤ 17592186044600 ∧ Aside0 (j + m = 8 ∧ L' = L + j ∧ q = (m : Int) - 1) ∧ Aside0 (RowB w.heap.size 5 (.slice (some ⟨g1, 0, none⟩) L' cap) (fill1 s ++ szb s.size j) wr) ∧ Aside0 (Below w.heap.size w wr))
      case atStart => exact ⟨_, _, 0, _, _, rfl, rfl, by omega, ⟨by omega, by omega, by omega⟩, G1, G2⟩
      case round =>
        clear G1 G2
        obtain ⟨g2, cap2, j, L', q, rfl, rfl, hL', HJ, G1, G2⟩ := hrel
        by_cases hm : gk = 0
        · obtain rfl : q = -1 := by have := HJ.out; omega
          go_wp2_with fail
          go_ret
          have hjL : j = 8 ∧ L' = L + 8 := by have := HJ.out; omega
          obtain ⟨rfl, hLe⟩ := hjL
          have hlen : (fill2 s s.size).length = L' := by unfold fill2; rw [List.length_append, szb_len, hF1.out, hLe]
          rw [hlen]
          exact ⟨g2, cap2, rfl, G1.out, G2.out⟩
        · obtain ⟨k, rfl⟩ : ∃ k : Nat, gk = k + 1 := ⟨gk - 1, by omega⟩
          obtain rfl : q = (k : Int) := by have := HJ.out; omega
          have hk7 : (k : Int) ≤ 7 := by have := HJ.out; omega
          have hw3 : IntKind.i64.wrap (8 * (k : Int)) = 8 * (k : Int) := IntWalk.i64_in _ (by omega)
          have hw5 : IntKind.u64.wrap (8 * (k : Int)) = 8 * (k : Int) := by rw [IntKind.wrap_u64]; omega
          have hj : j + k = 7 := by have := HJ.out; omega
          have hbv : ((UInt8.ofNat (s.size * 8 / 2 ^ (8 * k) % 256)).toNat : Int) = 8 * (s.size : Int) / 2 ^ (8 * k) % 256 := by
            rw [UInt8.toNat_ofNat', Nat.mod_eq_of_lt (Nat.mod_lt _ (by decide)), Nat.mul_comm s.size 8]
            push_cast
            rfl
          have Hbv := Lib.hid hbv
          have HL1 : Hid ((fill1 s ++ szb s.size j).length = L') := Lib.hid (by rw [List.length_append, hF1.out, szb_len]; have := HJ.out; omega)
          have hS : Hid (fill1 s ++ szb s.size (j + 1) = (fill1 s ++ szb s.size j) ++ [UInt8.ofNat (s.size * 8 / 2 ^ (8 * k) % 256)]) := Lib.hid (by rw [szb, show 7 - j = k by omega, List.append_assoc])
          clear hbv
          go_wp2_with (at_builtin; refine wpList_append_rowB rfl _ _ 59 rfl w.heap.size 5 i0 (by kernel_rfl) hi hz0 hz1 hz2 _ _ [UInt8.ofNat (s.size * 8 / 2 ^ (8 * k) % 256)] rfl (G1.out.alloc _) ⟨wr.heap.size, 0, none⟩ 1 rfl ?c1 ?c2 ?c3 ?_)
          case c1 =>
            intro j u hj
            match j, hj with
            | 0, hj =>
              simp only [List.getElem?_cons_zero, Option.some.injEq] at hj
              subst hj
              rw [Hbv.out]
              simp [Addr.add]
          case c2 => have := HL1.out; simp only [List.length_cons, List.length_nil]; omega
          case c3 => have := G2.out.size; simp; omega
          intro v' w2 hown' hgrow
          rw [← List.append_assoc] at hown'
          obtain ⟨g3, cap3, rfl⟩ := row_len hown' (L := L') (by rw [List.length_append, HL1.out]; rfl)
          have G2 := Aside0.mk ((G2.out.alloc G2.out.size _).grown hgrow (by have := G2.out.size; simp; omega) (fun k hk => (G1.out.lt k hk).1))
          have G1 := Aside0.mk hown'
          clear hown' hgrow hw3 hw5
          have hw4 : IntKind.i64.wrap ((k : Int) - 1) = (k : Int) - 1 := IntWalk.i64_in _ (by omega)
          go_wp2
          go_roundg k
          case measure => omega
          case rel => exact ⟨_, _, j + 1, _, _, rfl, rfl, by have := HJ.out; omega, ⟨by have := HJ.out; omega⟩, ⟨by rw [hS.out]; exact G1.out⟩, G2⟩
    · have t1 : ¬ (L : Int) % 64 = 56 := by have := HJ.out; unfold pz at this; omega
      have t2 : ((L : Int) % 64 == 56) = false := by simpa using t1
      have t3 : ((L : Int) % 64 != 56) = true := by simp [bne, t2]
      clear t1
      have hl1 : (fill0 s ++ List.replicate j 0).length = L := by rw [List.length_append, List.length_replicate, G3.out]; have := HJ.out; omega
      have HL1 := Lib.hid hl1
      clear hl1
      go_wp2_with (at_builtin; refine wpList_append_rowB rfl _ _ 59 rfl w.heap.size 5 i0 (by kernel_rfl) hi hz0 hz1 hz2 _ _ [0] rfl (G1.out.alloc _) ⟨wr.heap.size, 0, none⟩ 1 rfl ?c1 ?c2 ?c3 ?_)
      case c1 =>
        intro j u hj
        match j, hj with
        | 0, hj => simp at hj; subst hj; simp [Addr.add]
      case c2 => have := HL1.out; simp only [List.length_cons, List.length_nil]; omega
      case c3 => have := G2.out.size; simp; omega
      intro v' w2 hown' hgrow
      rw [← List.append_assoc] at hown'
      obtain ⟨g2, cap2, rfl⟩ := row_len hown' (L := L) (by rw [List.length_append, HL1.out]; rfl)
      have G2 := Aside0.mk ((G2.out.alloc G2.out.size _).grown hgrow (by have := G2.out.size; simp; omega) (fun k hk => (G1.out.lt k hk).1))
      have G1 := Aside0.mk hown'
      clear hown' hgrow
      go_wp2
      go_roundg (gk - 1)
      case measure => omega
      case rel => exact ⟨_, _, j + 1, L + 1, rfl, by have := HJ.out; omega, ⟨by have := HJ.out; omega⟩, ⟨by rw [List.replicate_succ', ← List.append_assoc]; exact G1.out⟩, G2⟩
end Go.Proofs.YtpgfafpjfdbjmaaDoor
end
section
namespace Go.Proofs.YtpgfafpjfdbjmaaDoor
open Go.RowKit Q Go.Proofs.YtpgfafpjfdbjmaaDoorW.PrintWords Go.Proofs.YtpgfafpjfdbjmaaDoorW.PrintLast Go.Proofs.YtpgfafpjfdbjmaaDoorW.PrintMore
theorem R_ints {k : IntKind} {e : Nat} {w : World} {base : Nat} {ok : Nat → Prop} {v : Value} {xs : List Int} (h : Kd.R (Kd.int k) e w base ok v xs) (h0 : xs ≠ []) :
    ∃ g cap, v = .slice (some ⟨g, 0, none⟩) xs.length cap ∧ xs.length ≤ cap ∧ base ≤ g ∧ g < w.heap.size ∧ ∀ j, j < xs.length → w.cell? ⟨g, j, none⟩ = some (.int k (xs.getD j 0)) := by
  obtain ⟨A, c, hv, hle, hrow⟩ := OwnRow.reads h.2
  subst hv
  have hpos : 0 < xs.length := List.length_pos_iff.2 h0
  obtain ⟨_, inner, hown, _⟩ := h
  rcases hown.2 with ⟨hv, _⟩ | ⟨g, cap, cur, hv, hb, hg, _⟩
  · simp only [Value.slice.injEq] at hv
    omega
  · simp only [Value.slice.injEq] at hv
    obtain ⟨rfl, _, rfl⟩ := hv
    refine ⟨g, c, rfl, hle, hb, (Array.getElem?_eq_some_iff.1 hg).1, fun j hj => ?_⟩
    obtain ⟨ad, had, hc⟩ := hrow.2.2 hpos
    simp only [Option.some.injEq] at had
    subst had
    obtain ⟨cs, _, hK, hcell⟩ := hc j xs[j] (List.getElem?_eq_getElem hj)
    have hcs : cs = [.int k xs[j]] := hK
    have := hcell 0 (.int k xs[j]) (by rw [hcs]; rfl)
    have hadd : (⟨g, 0, none⟩ : Addr).add (j * (Kd.int k).sz + 0) = ⟨g, j, none⟩ := by
      have : (Kd.int k).sz = 1 := rfl
      rw [this]
      unfold Addr.add; split <;> simp_all
    rw [hadd] at this
    rw [this, List.getD_eq_getElem?_getD, List.getElem?_eq_getElem hj]
    rfl
theorem K_f (i : Nat) (hi : i < 64) : sluicegateref03_K.f (i : Int) = some (KL.getD i 0) := by
  unfold sluicegateref03_K.f
  show (if 0 ≤ (i : Int) then (if (i : Int) < (KL.length : Int) then some (rd KL (i : Int)) else none) else none) = _
  rw [KL_len, if_pos (by omega), if_pos (by omega)]
  unfold rd
  rw [show ((i : Int)).toNat = i by omega]
theorem K_q (i : Nat) (hi : i < 64) (w : World) : Calls Tryd.prog 79 #[.int .i64 (i : Int)] w fun e w'' => e = .returned (.int .u32 (KL.getD i 0)) ∧ Below w.heap.size w w'' :=
  sluicegateref03_K.calls (i : Int) _ w (K_f i hi)
theorem rot_q (x n : Int) (h0 : 0 ≤ n) (h1 : n ≤ 32) (w : World) : Calls Tryd.prog 78 #[.int .u32 x, .int .u64 n] w fun e w'' => e = .returned (.int .u32 (rr x n)) ∧ Below w.heap.size w w'' := by
  refine (sluicegateref03_rot.calls x n _ w (rot_f x n h0 h1)).mono ?_
  rintro e w' ⟨rfl, hd⟩
  exact ⟨rfl, hd.below⟩
structure W8 (w : World) (g : Nat) (x : V8) : Prop where
  lt : g < w.heap.size
  c0 : w.cell? ⟨g, 0, none⟩ = some (.int .u32 x.a)
  c1 : w.cell? ⟨g, 1, none⟩ = some (.int .u32 x.b)
  c2 : w.cell? ⟨g, 2, none⟩ = some (.int .u32 x.c)
  c3 : w.cell? ⟨g, 3, none⟩ = some (.int .u32 x.d)
  c4 : w.cell? ⟨g, 4, none⟩ = some (.int .u32 x.e)
  c5 : w.cell? ⟨g, 5, none⟩ = some (.int .u32 x.f)
  c6 : w.cell? ⟨g, 6, none⟩ = some (.int .u32 x.g)
  c7 : w.cell? ⟨g, 7, none⟩ = some (.int .u32 x.h)
theorem W8.keep {w w' : World} {g : Nat} {x : V8} (h : W8 w g x) (hb : Below w.heap.size w w') : W8 w' g x :=
  ⟨Nat.lt_of_lt_of_le h.lt hb.size, (hb.cell h.lt).trans h.c0, (hb.cell h.lt).trans h.c1, (hb.cell h.lt).trans h.c2, (hb.cell h.lt).trans h.c3, (hb.cell h.lt).trans h.c4, (hb.cell h.lt).trans h.c5, (hb.cell h.lt).trans h.c6, (hb.cell h.lt).trans h.c7⟩
theorem W8.at {w : World} {g : Nat} {x : V8} (h : W8 w g x) (j : Nat) (v : Value) (hj : (x.cells)[j]? = some v) : w.cell? ⟨g, j, none⟩ = some v := by
  match j, hj with
  | 0, hj => exact h.c0.trans hj
  | 1, hj => exact h.c1.trans hj
  | 2, hj => exact h.c2.trans hj
  | 3, hj => exact h.c3.trans hj
  | 4, hj => exact h.c4.trans hj
  | 5, hj => exact h.c5.trans hj
  | 6, hj => exact h.c6.trans hj
  | 7, hj => exact h.c7.trans hj
  | j + 8, hj => simp [V8.cells] at hj
structure RowI (w : World) (g : Nat) (l : List Int) : Prop where
  lt : g < w.heap.size
  at' : ∀ j, j < l.length → w.cell? ⟨g, j, none⟩ = some (.int .u32 (l.getD j 0))
theorem RowI.keep {w w' : World} {g : Nat} {l : List Int} (h : RowI w g l) (hb : Below w.heap.size w w') : RowI w' g l :=
  ⟨Nat.lt_of_lt_of_le h.lt hb.size, fun j hj => (hb.cell h.lt).trans (h.at' j hj)⟩
theorem C_bytes {w : World} {g off : Nat} {l : List UInt8} (hl : l.length ≤ 9223372036854775807) (hc : ∀ j x, l[j]? = some x → w.cell? ⟨g, off + j, none⟩ = some (.int .u8 (x.toNat : Int))) : Kd.C (Kd.int .u8) w (some ⟨g, off, none⟩) (numsB l).length (numsB l) := by
  refine ⟨rfl, by unfold numsB; rw [List.length_map]; exact hl, fun _ => ⟨_, rfl, fun j p hp => ⟨[.int .u8 p], rfl, rfl, fun i u hu => ?_⟩⟩⟩
  match i, hu with
  | 0, hu =>
    simp only [List.getElem?_cons_zero, Option.some.injEq] at hu
    subst hu
    have hadd : (⟨g, off, none⟩ : Addr).add (j * (Kd.int .u8).sz + 0) = ⟨g, off + j, none⟩ := by
      have : (Kd.int .u8).sz = 1 := rfl
      rw [this]
      unfold Addr.add; split <;> simp_all
    rw [hadd]
    unfold numsB at hp
    rw [List.getElem?_map, Option.map_eq_some_iff] at hp
    obtain ⟨x, hx, rfl⟩ := hp
    exact hc j x hx
  | i + 1, hu => simp at hu
theorem info34 : ∃ i, Tryd.prog.info? 91 = some i ∧ i.zero = some (.int .u32 0) ∧ i.size = 1 ∧ i.bytes = 4 := info_parts (by kernel_rfl)
theorem W8.get {w : World} {g : Nat} {x : V8} (h : W8 w g x) (j : Nat) (hj : j < 8) : w.cell? ⟨g, j, none⟩ = some (.int .u32 (x.l.getD j 0)) := by
  match j, hj with
  | 0, _ => exact h.c0
  | 1, _ => exact h.c1
  | 2, _ => exact h.c2
  | 3, _ => exact h.c3
  | 4, _ => exact h.c4
  | 5, _ => exact h.c5
  | 6, _ => exact h.c6
  | 7, _ => exact h.c7
theorem W8.of {w : World} {g : Nat} {T : TypeId} (x : V8) (h : Row w g T x.l) : W8 w g x :=
  ⟨h.lt, h.cell 0 (by simp [V8.l]), h.cell 1 (by simp [V8.l]), h.cell 2 (by simp [V8.l]), h.cell 3 (by simp [V8.l]), h.cell 4 (by simp [V8.l]), h.cell 5 (by simp [V8.l]), h.cell 6 (by simp [V8.l]), h.cell 7 (by simp [V8.l])⟩
theorem W8.other {w : World} {g g' : Nat} {x : V8} (h : W8 w g x) (hne : g ≠ g') (i : Nat) (v : Value) : W8 (w.setCell ⟨g', i, none⟩ v) g x := by
  have hb : (w.setCell ⟨g', i, none⟩ v).heap[g]? = w.heap[g]? := Below.heap_setCell _ _ _ _ (fun e => hne e)
  have hc : ∀ k, (w.setCell ⟨g', i, none⟩ v).cell? ⟨g, k, none⟩ = w.cell? ⟨g, k, none⟩ := fun k => World.cell?_of_block hb
  exact ⟨by simp [World.setCell]; exact h.lt, (hc _).trans h.c0, (hc _).trans h.c1, (hc _).trans h.c2, (hc _).trans h.c3, (hc _).trans h.c4, (hc _).trans h.c5, (hc _).trans h.c6, (hc _).trans h.c7⟩
theorem bits_bv (op : BitVec 32 → BitVec 32 → BitVec 32) (a b : Int) : (IntKind.u32.wrap ((op (BitVec.ofInt 32 a) (BitVec.ofInt 32 b)).toNat : Int)) = ((op (BitVec.ofInt 32 a) (BitVec.ofInt 32 b)).toNat : Int) := by
  rw [IntKind.wrap_u32]
  have := (op (BitVec.ofInt 32 a) (BitVec.ofInt 32 b)).isLt
  omega
theorem ofInt_toNat (x : BitVec 32) : BitVec.ofInt 32 (x.toNat : Int) = x := by
  rw [BitVec.ofInt_natCast, BitVec.ofNat_toNat, BitVec.setWidth_eq]
theorem and_bv (a b : Int) : Go.bits .and .u32 a b = ((BitVec.ofInt 32 a &&& BitVec.ofInt 32 b).toNat : Int) := bits_bv (· &&& ·) a b
theorem or_bv (a b : Int) : Go.bits .or .u32 a b = ((BitVec.ofInt 32 a ||| BitVec.ofInt 32 b).toNat : Int) := bits_bv (· ||| ·) a b
theorem xor_bv (a b : Int) : Go.bits .xor .u32 a b = ((BitVec.ofInt 32 a ^^^ BitVec.ofInt 32 b).toNat : Int) := bits_bv (· ^^^ ·) a b
theorem ch_eq (e f g : Int) : Go.bits .xor .u32 (Go.bits .and .u32 e f) (Go.bits .and .u32 (Go.bits .xor .u32 4294967295 e) g) = Go.bits .xor .u32 g (Go.bits .and .u32 e (Go.bits .xor .u32 f g)) := by
  simp only [and_bv, xor_bv, ofInt_toNat]
  congr 2
  generalize BitVec.ofInt 32 e = e
  generalize BitVec.ofInt 32 f = f
  generalize BitVec.ofInt 32 g = g
  have h1 : BitVec.ofInt 32 4294967295 = BitVec.allOnes 32 := by decide
  rw [h1]
  apply BitVec.eq_of_getLsbD_eq
  intro i hi
  simp only [BitVec.getLsbD_xor, BitVec.getLsbD_and, BitVec.getLsbD_allOnes, hi, decide_true]
  cases e.getLsbD i <;> cases f.getLsbD i <;> cases g.getLsbD i <;> rfl
theorem maj_eq (a b c : Int) : Go.bits .xor .u32 (Go.bits .xor .u32 (Go.bits .and .u32 a b) (Go.bits .and .u32 a c)) (Go.bits .and .u32 b c) = Go.bits .or .u32 (Go.bits .and .u32 a b) (Go.bits .and .u32 c (Go.bits .or .u32 a b)) := by
  simp only [and_bv, xor_bv, or_bv, ofInt_toNat]
  congr 2
  generalize BitVec.ofInt 32 a = a
  generalize BitVec.ofInt 32 b = b
  generalize BitVec.ofInt 32 c = c
  apply BitVec.eq_of_getLsbD_eq
  intro i hi
  simp only [BitVec.getLsbD_xor, BitVec.getLsbD_and, BitVec.getLsbD_or]
  cases a.getLsbD i <;> cases b.getLsbD i <;> cases c.getLsbD i <;> rfl
theorem tt_ref (e f g h k w : Int) : ((h + Go.bits .xor .u32 (Go.bits .xor .u32 (rr e 6) (rr e 11)) (rr e 25) + Go.bits .xor .u32 (Go.bits .and .u32 e f) (Go.bits .and .u32 (Go.bits .xor .u32 4294967295 e) g) + k) % 4294967296 + w) % 4294967296 = tt e f g h k w := by
  rw [ch_eq]
  rfl
theorem uu_ref (a b c : Int) : (Go.bits .xor .u32 (Go.bits .xor .u32 (rr a 2) (rr a 13)) (rr a 22) + Go.bits .xor .u32 (Go.bits .xor .u32 (Go.bits .and .u32 a b) (Go.bits .and .u32 a c)) (Go.bits .and .u32 b c)) % 4294967296 = uu a b c := by
  rw [maj_eq]
  rfl
theorem ad_comm (x y : V8) : ad x.l y.l 8 = ad y.l x.l 8 := by
  have h : ∀ a b : Int, (a + b) % 4294967296 = (b + a) % 4294967296 := fun a b => by rw [Int.add_comm]
  show [(x.a + y.a) % 4294967296, (x.b + y.b) % 4294967296, (x.c + y.c) % 4294967296, (x.d + y.d) % 4294967296, (x.e + y.e) % 4294967296, (x.f + y.f) % 4294967296, (x.g + y.g) % 4294967296, (x.h + y.h) % 4294967296] = [(y.a + x.a) % 4294967296, (y.b + x.b) % 4294967296, (y.c + x.c) % 4294967296, (y.d + x.d) % 4294967296, (y.e + x.e) % 4294967296, (y.f + x.f) % 4294967296, (y.g + x.g) % 4294967296, (y.h + x.h) % 4294967296]
  rw [h x.a, h x.b, h x.c, h x.d, h x.e, h x.f, h x.g, h x.h]
set_option maxRecDepth 100000 in
set_option maxHeartbeats 1000000 in
theorem refblock_walk (ga gb ob cb : Nat) (x R : V8) (l : List UInt8) (hl : l.length = 64) (WL : List Int) (hwl : WL.length = 64) (kw : Nat) (hkw : sluicegateref03_words.f kw (numsB l) = some WL) (hres : ∀ i, i = 64 → v8 (ad x.l (cv x KL WL i).l 8) = R) (hcb : 64 ≤ cb) (w : World) (hst : W8 w ga x) (hga : ga < w.heap.size) (hb : ∀ j z, l[j]? = some z → w.cell? ⟨gb, ob + j, none⟩ = some (.int .u8 (z.toNat : Int))) :
    Calls Tryd.prog 58 #[.slice (some ⟨ga, 0, none⟩) 8 8, .slice (some ⟨gb, ob, none⟩) 64 cb] w fun e w' => ∃ g, e = .returned (.slice (some ⟨g, 0, none⟩) 8 8) ∧ W8 w' g R ∧ w.heap.size ≤ g ∧ Below w.heap.size w w' := by
  obtain ⟨i0, hi, hz0, hz1, hz2⟩ := info34
  have hnl : (numsB l).length = 64 := by unfold numsB; rw [List.length_map, hl]
  have HH := Lib.hid (sluicegateref03_words.calls kw _ cb _ _ w (C_bytes (by omega) hb) (by rw [hnl]; exact hcb) hkw)
  rw [hnl] at HH
  have HRES := Lib.hid hres
  have HST := Aside0.mk hst
  have HGA := Aside0.mk hga
  clear hst hnl hres hkw hb hl hcb hga
  go_enter Tryd.func58, Tryd.ntmps58
  go_wp2_with fail
  refine Calls.mono HH.out ?_
  clear HH
  rintro e w1 ⟨v0, rfl, hR, hB⟩
  obtain ⟨gw, cw, rfl, hcw, hgw, hgw2, hcells⟩ := R_ints hR (by intro h; rw [h] at hwl; cases hwl)
  rw [hwl] at hcw
  have HB := Aside0.mk hB
  have HR := Aside0.mk (⟨hgw2, hcells⟩ : RowI w1 gw WL)
  have HST := Aside0.mk (HST.out.keep hB)
  clear hR hB hcells
  rw [hwl]
  go_wp2_with (at_builtin; refine wpList_append_own _ rfl _ _ 92 rfl w.heap.size 91 i0 (.int .u32 0) 1 4 (by kernel_rfl) hi hz0 hz1 hz2 rfl (by decide) (.slice none 0 0) 0 [] rfl ⟨rfl, .inl ⟨rfl, rfl⟩⟩ ⟨ga, 0, none⟩ 8 8 x.cells.toList rfl rfl ?c1 ?c2 ?c3 ?c4 ?c5 ?_)
  case c1 =>
    intro j u hj
    have hadd : (⟨ga, 0, none⟩ : Addr).add j = ⟨ga, j, none⟩ := by unfold Addr.add; split <;> simp_all
    rw [hadd]
    exact HST.out.at j u (by simpa using hj)
  case c2 => intro u hu; simp [V8.cells] at hu; rcases hu with rfl | rfl | rfl | rfl | rfl | rfl | rfl | rfl <;> rfl
  case c3 => decide
  case c4 => decide
  case c5 => exact HB.out.size
  intro v' w2 hown hgrow _
  obtain ⟨g2, c2, rfl, hg2, hW8⟩ : ∃ g c, v' = .slice (some ⟨g, 0, none⟩) 8 c ∧ w.heap.size ≤ g ∧ W8 w2 g x := by
    rcases hown.2 with ⟨_, h0⟩ | ⟨g, cap, cur, hv, hb, hg, _⟩
    · cases h0
    · subst hv
      have hat : ∀ (j : Nat) (v : Value), x.cells.toList[j]? = some v → w2.cell? ⟨g, j, none⟩ = some v := fun j v hj => by
        have := hown.cells (g := g) rfl j v (by simpa using hj)
        have hadd : (⟨g, 0, none⟩ : Addr).add j = ⟨g, j, none⟩ := by unfold Addr.add; split <;> simp_all
        rwa [hadd] at this
      exact ⟨g, cap, rfl, hb, ⟨(Array.getElem?_eq_some_iff.1 hg).1, hat 0 _ rfl, hat 1 _ rfl, hat 2 _ rfl, hat 3 _ rfl, hat 4 _ rfl, hat 5 _ rfl, hat 6 _ rfl, hat 7 _ rfl⟩⟩
  have hgb : Below w1.heap.size w1 w2 := (Below.refl _ _).grown hgrow (Nat.le_refl _) (by intro k hk; cases hk)
  have HST := Aside0.mk (HST.out.keep hgb)
  have HR := Aside0.mk (HR.out.keep hgb)
  have HB := Aside0.mk (HB.out.trans (hgb.mono HB.out.size))
  have HV := Aside0.mk (show W8 w2 g2 (cv x KL WL 0) ∧ w.heap.size ≤ g2 from ⟨hW8, hg2⟩)
  clear hown hgrow hW8 hgb hg2
  go_wp2_with fail
  go_loopw [6, 7] (fun v n wr => ∃ i g c : Nat, i ≤ 64 ∧ n = .int .i64 i ∧ v = .slice (some ⟨g, 0, none⟩) 8 c ∧ Aside0 (W8 wr g (cv x KL WL i) ∧ w.heap.size ≤ g ∧ (i = 0 ∨ c = 8 ∧ Row wr g 91 (cv x KL WL i).l)) ∧ Aside0 (RowI wr gw WL) ∧ Aside0 (W8 wr ga x) ∧ Aside0 (Below w.heap.size w wr)) (fun _ n _ => 64 - (intOf n).toNat)
  case atStart => exact ⟨0, _, _, by omega, rfl, rfl, ⟨HV.out.1, HV.out.2, .inl rfl⟩, HR, HST, HB⟩
  case round =>
    clear HV HR HST HB
    obtain ⟨i, gv, c, hi64, rfl, rfl, HV, HR, HST, HB⟩ := hrel
    by_cases hlt : i < 64
    · have hS : Hid (stp (cv x KL WL i) (KL.getD i 0) (WL.getD i 0) = cv x KL WL (i + 1)) := Lib.hid rfl
      have hV := HV.out.1
      have hcw := HR.out.at' i (by omega)
      have hgwl := HR.out.lt
      have HKq := fun (W : World) => K_q i hlt W
      generalize KL.getD i 0 = kk at *
      generalize WL.getD i 0 = ww at *
      generalize cv x KL WL i = y at *
      obtain ⟨a, b', c', d, e, f, g, h⟩ := y
      have hgv := hV.lt
      have c0 : wr.cell? ⟨gv, 0, none⟩ = some (.int .u32 a) := hV.c0
      have c1 : wr.cell? ⟨gv, 1, none⟩ = some (.int .u32 b') := hV.c1
      have c2 : wr.cell? ⟨gv, 2, none⟩ = some (.int .u32 c') := hV.c2
      have c3 : wr.cell? ⟨gv, 3, none⟩ = some (.int .u32 d) := hV.c3
      have c4 : wr.cell? ⟨gv, 4, none⟩ = some (.int .u32 e) := hV.c4
      have c5 : wr.cell? ⟨gv, 5, none⟩ = some (.int .u32 f) := hV.c5
      have c6 : wr.cell? ⟨gv, 6, none⟩ = some (.int .u32 g) := hV.c6
      have c7 : wr.cell? ⟨gv, 7, none⟩ = some (.int .u32 h) := hV.c7
      clear hV
      go_wp2_with fail
      refine region_below_tail 43 (by kernel_rfl) (by kernel_rfl) ?_
      simp only [List.take_succ_cons, List.take_zero, List.drop_succ_cons, List.drop_zero]
      repeat (first | go_big_quiet_step (fail) | (refine BigFrame.wpQuiet_want (by rfl) (fun K hK => ?_); go_big_quiet_op; refine ⟨_, fun _ _ => rfl, hK _ ?_⟩; clear hK K) | (refine q_ld 91 _ _ _ _ rfl rfl rfl rfl (ld_u32 _ _) (by assumption) (by assumption) ?_; simp only [Act.put, List.setIfInBounds_toArray, List.set_cons_zero, List.set_cons_succ]) | (refine q_go (f := 78) Tryd.func78 (by kernel_rfl) rfl #[.int .u32 _, .int .u64 _] _ _ rfl rfl rfl (by simp only [List.map_toArray, List.map_cons, List.map_nil]; rfl) (fun w' _ => rot_q _ _ (by decide) (by decide) w') ?_; simp only [Act.put, List.setIfInBounds_toArray, List.set_cons_zero, List.set_cons_succ]) | (refine q_go (f := 79) Tryd.func79 (by kernel_rfl) rfl #[.int .i64 _] _ _ rfl rfl rfl (by simp only [List.map_toArray, List.map_cons, List.map_nil]; rfl) (fun w' _ => HKq w') ?_; simp only [Act.put, List.setIfInBounds_toArray, List.set_cons_zero, List.set_cons_succ]))
      refine wpQuiet_nil ?_
      intro wn hw'
      clear c0 c1 c2 c3 c4 c5 c6 c7 hcw hgwl hgv HKq
      have HV := Aside0.mk (show W8 wn gv ⟨a, b', c', d, e, f, g, h⟩ ∧ w.heap.size ≤ gv from ⟨HV.out.1.keep hw', HV.out.2.1⟩)
      have HR := Aside0.mk (HR.out.keep hw')
      have HST := Aside0.mk (HST.out.keep hw')
      have HB := Aside0.mk (below2 HB.out HB.out.size hw')
      have hgv := HV.out.1.lt
      have c0 : wn.cell? ⟨gv, 0, none⟩ = some (.int .u32 a) := HV.out.1.c0
      have c1 : wn.cell? ⟨gv, 1, none⟩ = some (.int .u32 b') := HV.out.1.c1
      have c2 : wn.cell? ⟨gv, 2, none⟩ = some (.int .u32 c') := HV.out.1.c2
      have c3 : wn.cell? ⟨gv, 3, none⟩ = some (.int .u32 d) := HV.out.1.c3
      have c4 : wn.cell? ⟨gv, 4, none⟩ = some (.int .u32 e) := HV.out.1.c4
      have c5 : wn.cell? ⟨gv, 5, none⟩ = some (.int .u32 f) := HV.out.1.c5
      have c6 : wn.cell? ⟨gv, 6, none⟩ = some (.int .u32 g) := HV.out.1.c6
      have c7 : wn.cell? ⟨gv, 7, none⟩ = some (.int .u32 h) := HV.out.1.c7
      clear hw'
      have hmx : (if IntKind.u32.signed = true then (-1 : Int) else IntKind.u32.max) = 4294967295 := rfl
      rw [hmx]
      clear hmx
      go_wp2_with fail
      rw [tt_ref]
      have HT : Hid (stp ⟨a, b', c', d, e, f, g, h⟩ kk ww = ⟨(tt e f g h kk ww + uu a b' c') % 4294967296, a, b', c', (d + tt e f g h kk ww) % 4294967296, e, f, g⟩) := Lib.hid rfl
      generalize tt e f g h kk ww = t at *
      refine region_below_tail 38 (by kernel_rfl) (by kernel_rfl) ?_
      simp only [List.take_succ_cons, List.take_zero, List.drop_succ_cons, List.drop_zero]
      repeat (first | go_big_quiet_step (fail) | (refine BigFrame.wpQuiet_want (by rfl) (fun K hK => ?_); go_big_quiet_op; refine ⟨_, fun _ _ => rfl, hK _ ?_⟩; clear hK K) | (refine q_ld 91 _ _ _ _ rfl rfl rfl rfl (ld_u32 _ _) (by assumption) (by assumption) ?_; simp only [Act.put, List.setIfInBounds_toArray, List.set_cons_zero, List.set_cons_succ]) | (refine q_go (f := 78) Tryd.func78 (by kernel_rfl) rfl #[.int .u32 _, .int .u64 _] _ _ rfl rfl rfl (by simp only [List.map_toArray, List.map_cons, List.map_nil]; rfl) (fun w' _ => rot_q _ _ (by decide) (by decide) w') ?_; simp only [Act.put, List.setIfInBounds_toArray, List.set_cons_zero, List.set_cons_succ]))
      refine wpQuiet_nil ?_
      clear c0 c1 c2 c3 c4 c5 c6 c7 hgv
      intro wm hw'
      have HV := Aside0.mk (show W8 wm gv ⟨a, b', c', d, e, f, g, h⟩ ∧ w.heap.size ≤ gv from ⟨HV.out.1.keep hw', HV.out.2⟩)
      have HR := Aside0.mk (HR.out.keep hw')
      have HST := Aside0.mk (HST.out.keep hw')
      have HB := Aside0.mk (below2 HB.out HB.out.size hw')
      have hgv := HV.out.1.lt
      have c0 : wm.cell? ⟨gv, 0, none⟩ = some (.int .u32 a) := HV.out.1.c0
      have c1 : wm.cell? ⟨gv, 1, none⟩ = some (.int .u32 b') := HV.out.1.c1
      have c2 : wm.cell? ⟨gv, 2, none⟩ = some (.int .u32 c') := HV.out.1.c2
      have c3 : wm.cell? ⟨gv, 3, none⟩ = some (.int .u32 d) := HV.out.1.c3
      have c4 : wm.cell? ⟨gv, 4, none⟩ = some (.int .u32 e) := HV.out.1.c4
      have c5 : wm.cell? ⟨gv, 5, none⟩ = some (.int .u32 f) := HV.out.1.c5
      have c6 : wm.cell? ⟨gv, 6, none⟩ = some (.int .u32 g) := HV.out.1.c6
      have c7 : wm.cell? ⟨gv, 7, none⟩ = some (.int .u32 h) := HV.out.1.c7
      clear hw'
      go_wp2_with fail
      rw [uu_ref]
      generalize uu a b' c' = u at *
      refine region_below_tail 26 (by kernel_rfl) (by kernel_rfl) ?_
      simp only [List.take_succ_cons, List.take_zero, List.drop_succ_cons, List.drop_zero]
      repeat (first | go_big_quiet_step (fail) | (refine BigFrame.wpQuiet_want (by rfl) (fun K hK => ?_); go_big_quiet_op; refine ⟨_, fun _ _ => rfl, hK _ ?_⟩; clear hK K) | (refine q_ld 91 _ _ _ _ rfl rfl rfl rfl (ld_u32 _ _) (by assumption) (by assumption) ?_; simp only [Act.put, List.setIfInBounds_toArray, List.set_cons_zero, List.set_cons_succ]))
      refine wpQuiet_nil ?_
      clear c0 c1 c2 c3 c4 c5 c6 c7 hgv
      intro wl hw'
      have HR := Aside0.mk (HR.out.keep hw')
      have HST := Aside0.mk (HST.out.keep hw')
      have HB := Aside0.mk (below2 HB.out HB.out.size hw')
      clear hw'
      go_wp2_with fail
      go_roundw
      case measure => simp [intOf]; omega
      case rel =>
        have hrow : Row (wl.alloc (.cells (arr .u32 [(t + u) % 4294967296, a, b', c', (d + t) % 4294967296, e, f, g]) 91)) wl.heap.size 91 (cv x KL WL (i + 1)).l := by
          rw [← hS.out, HT.out]
          exact Row.new wl _ _
        exact ⟨i + 1, wl.heap.size, 8, by omega, by go_num, rfl, ⟨W8.of _ hrow, HB.out.size, .inr ⟨rfl, hrow⟩⟩, ⟨HR.out.keep (below_alloc (Below.refl _ _) _)⟩, ⟨HST.out.keep (below_alloc (Below.refl _ _) _)⟩, ⟨below_alloc HB.out _⟩⟩
    · have hi : i = 64 := by omega
      have HI := Lib.hid (HRES.out i hi)
      have hrow : c = 8 ∧ Row wr gv 91 (cv x KL WL i).l := by
        rcases HV.out.2.2 with h | h
        · omega
        · exact h
      obtain ⟨rfl, hrow⟩ := hrow
      have hgB := HV.out.2.1
      have HN := Lib.hid hi
      clear hi hi64 HV HRES
      generalize cv x KL WL i = y at *
      have HY : Aside0 (Row wr gv 91 (ad y.l x.l 0)) := ⟨hrow⟩
      have hne : ga ≠ gv := by have := HGA.out; omega
      clear hrow
      go_wp2_with fail
      go_loopw [10] (fun n wr => ∃ j : Nat, j ≤ 8 ∧ n = .int .i64 j ∧ Aside0 (Row wr gv 91 (ad y.l x.l j)) ∧ Aside0 (W8 wr ga x) ∧ Aside0 (Below w.heap.size w wr)) (fun n _ => 8 - (intOf n).toNat)
      case atStart => exact ⟨0, by omega, rfl, HY, HST, HB⟩
      case round =>
        clear HY HST HB HR
        obtain ⟨j, hj, rfl, HY, HST, HB⟩ := hrel
        by_cases hlt : j < 8
        · have hyl : (ad y.l x.l j).length = 8 := ad_len _ _ _
          have hcv := HY.out.cell j (by omega)
          have hcs := HST.out.get j hlt
          have hgv := HY.out.lt
          have hga := HST.out.lt
          have hS : Hid (ad y.l x.l (j + 1) = (ad y.l x.l j).set j (((ad y.l x.l j).getD j 0 + x.l.getD j 0) % 4294967296)) := Lib.hid rfl
          generalize (ad y.l x.l j).getD j 0 = vv at *
          generalize x.l.getD j 0 = ss at *
          generalize ad y.l x.l j = L at *
          go_wp2_with fail
          refine region_below_tail 11 (by kernel_rfl) (by kernel_rfl) ?_
          simp only [List.take_succ_cons, List.take_zero, List.drop_succ_cons, List.drop_zero]
          repeat (first | go_big_quiet_step (fail) | (refine BigFrame.wpQuiet_want (by rfl) (fun K hK => ?_); go_big_quiet_op; refine ⟨_, fun _ _ => rfl, hK _ ?_⟩; clear hK K) | (refine q_ld 91 _ _ _ _ rfl rfl rfl rfl (ld_u32 _ _) (by assumption) (by assumption) ?_; simp only [Act.put, List.setIfInBounds_toArray, List.set_cons_zero, List.set_cons_succ]))
          refine wpQuiet_nil ?_
          intro wn hw'
          have HY := Aside0.mk (HY.out.keep hw')
          have HST := Aside0.mk (HST.out.keep hw')
          have HB := Aside0.mk (below2 HB.out HB.out.size hw')
          have hcv := HY.out.cell j (by omega)
          have hfr := HY.out.frozen j
          clear hw' hcs hyl
          go_wp2_with fail
          go_roundw
          case measure => simp [intOf]; omega
          case rel => exact ⟨j + 1, by omega, by go_num, ⟨by rw [hS.out]; exact HY.out.set j _⟩, ⟨HST.out.other hne j _⟩, ⟨HB.out.setCell (by simp; omega) _⟩⟩
        · have hj8 : j = 8 := by omega
          have HJ := Lib.hid hj8
          clear hj8 hj
          go_wp2_with fail
          go_ret
          have hy := HY.out
          rw [HJ.out, ← ad_comm] at hy
          have h8 : (ad x.l y.l 8).length = 8 := ad_len _ _ _
          rw [← v8_l _ h8, HI.out] at hy
          exact ⟨gv, rfl, W8.of _ hy, hgB, HB.out⟩
theorem refblock_calls (ga gb ob cb : Nat) (x : V8) (l : List UInt8) (hl : l.length = 64) (hcb : 64 ≤ cb) (w : World) (hst : W8 w ga x) (hga : ga < w.heap.size) (hb : ∀ j z, l[j]? = some z → w.cell? ⟨gb, ob + j, none⟩ = some (.int .u8 (z.toNat : Int))) :
    Calls Tryd.prog 58 #[.slice (some ⟨ga, 0, none⟩) 8 8, .slice (some ⟨gb, ob, none⟩) 64 cb] w fun e w' => ∃ g, e = .returned (.slice (some ⟨g, 0, none⟩) 8 8) ∧ W8 w' g (bv x ⟨l.toArray⟩) ∧ w.heap.size ≤ g ∧ Below w.heap.size w w' := by
  refine refblock_walk ga gb ob cb x (bv x ⟨l.toArray⟩) l hl (wlAll ⟨l.toArray⟩) (wlAll_len _) 70 (words_f l hl) ?_ hcb w hst hga hb
  rintro i rfl
  rfl
end Go.Proofs.YtpgfafpjfdbjmaaDoor
end
section
namespace Go.Proofs.YtpgfafpjfdbjmaaDoor
open Go.RowKit Q Go.Proofs.YtpgfafpjfdbjmaaDoorW.PrintWords Go.Proofs.YtpgfafpjfdbjmaaDoorW.PrintLast Go.Proofs.YtpgfafpjfdbjmaaDoorW.PrintMore
theorem app_run {P : Program} {W W' : World} {v' : Value} {t : TypeId} {v : Value} {ad : Addr} {n c : Nat} (ev : Operand → Value) (s x : Operand) {o : Oper} (ho : o.op = .call { callee := .builtin .append, args := #[s, x], argTypes := #[t, t] }) (hs : ev s = v) (hx : ev x = .slice (some ad) n c)
    (hr : (Builtin.append_ #[t, t] o.type #[v, .slice (some ad) n c]).run P W = .ok v' W') : (execOp ev o).run P W = .ok (.value v') W' := by
  unfold execOp
  simp only [ho, resolve, invoke, builtin, Sem.run_bind, Sem.run_pure, Result.andThen_ok, List.map_toArray, List.map_cons, List.map_nil, hs, hx, hr]
theorem be4_cells (xx : Int) (wn : World) : ∀ j x, (be4 xx)[j]? = some x → (wn.alloc (.cells #[.int .u8 (IntKind.u8.wrap (xx / 16777216)), .int .u8 (IntKind.u8.wrap (xx / 65536)), .int .u8 (IntKind.u8.wrap (xx / 256)), .int .u8 (IntKind.u8.wrap xx)] 5)).cell? ((⟨wn.heap.size, 0, none⟩ : Addr).add j) = some (.int .u8 (x.toNat : Int)) := by
  intro j z hz
  match j, hz with
  | 0, hz => simp only [be4, List.getElem?_cons_zero, Option.some.injEq] at hz; subst hz; rw [be_byte]; simp [Addr.add, IntKind.wrap_u8]
  | 1, hz => simp only [be4, List.getElem?_cons_zero, List.getElem?_cons_succ, Option.some.injEq] at hz; subst hz; rw [be_byte]; simp [Addr.add, IntKind.wrap_u8]
  | 2, hz => simp only [be4, List.getElem?_cons_zero, List.getElem?_cons_succ, Option.some.injEq] at hz; subst hz; rw [be_byte]; simp [Addr.add, IntKind.wrap_u8]
  | 3, hz => simp only [be4, List.getElem?_cons_zero, List.getElem?_cons_succ, Option.some.injEq] at hz; subst hz; rw [be_byte]; simp [Addr.add, IntKind.wrap_u8]
  | j + 4, hz => simp [be4] at hz
set_option maxRecDepth 100000 in
set_option maxHeartbeats 1000000 in
theorem refsum_walk (s : ByteArray) (hs : s.size ≤ 17592186044416) (L nb : Nat) (PL : List UInt8) (hPL : fill2 s s.size = PL) (hL : PL.length = L) (hnb : 64 * nb = L) (x0 : V8) (hx0 : x0 = H8) (R : List UInt8) (hR : ∀ i, i = nb → ∀ j, j = 8 → outk (fd x0 ⟨PL.toArray⟩ i).l j = R) (w : World) :
    Calls Tryd.prog 40 #[.string s] w fun e w' => e = .returned (.string ⟨R.toArray⟩) ∧ Below w.heap.size w w' := by
  obtain ⟨i0, hi, hz0, hz1, hz2⟩ := info8
  have hLb : L ≤ 17592186044600 := by
    have : (fill2 s s.size).length = L := by rw [hPL]; exact hL
    unfold fill2 fill1 fill0 at this
    simp only [List.length_append, List.length_replicate, szb_len, Array.length_toList, List.length_cons, List.length_nil] at this
    have h1 : s.data.size = s.size := rfl
    unfold pz at this
    omega
  have HR := Lib.hid hR
  have HX := Lib.hid hx0
  have hf := fun W => filled_calls s hs W
  rw [hPL, hL] at hf
  have HF := Lib.hid hf
  have HL := Lib.hid hL
  have HN := Lib.hid hnb
  clear hR hx0 hf hPL hL hnb hs
  go_enter Tryd.func40, Tryd.ntmps40
  go_wp2_with fail
  have H1 : W8 (w.alloc (.cells #[.int .u32 1779033703, .int .u32 3144134277, .int .u32 1013904242, .int .u32 2773480762, .int .u32 1359893119, .int .u32 2600822924, .int .u32 528734635, .int .u32 1541459225] 91)) w.heap.size H8 := W8.of H8 (Row.new w 91 H8.l)
  have H2 : Below w.heap.size w (w.alloc (.cells #[.int .u32 1779033703, .int .u32 3144134277, .int .u32 1013904242, .int .u32 2773480762, .int .u32 1359893119, .int .u32 2600822924, .int .u32 528734635, .int .u32 1541459225] 91)) := below_alloc (Below.refl _ _) _
  rw [← HX.out] at H1
  have H3 := Aside0.mk H1
  have H4 := Aside0.mk H2
  clear H1 H2
  refine Calls.mono (HF.out _) ?_
  rintro e w1 ⟨gb, cb, rfl, hRow, hB⟩
  have hcb : L ≤ cb ∨ L = 0 := by
    rcases hRow with ⟨h, _⟩ | ⟨g, cap, cur, fz, hv, _, _, _, h1, _⟩
    · cases h
    · simp only [Value.slice.injEq] at hv
      left; have := HL.out; omega
  have HV := Aside0.mk (H3.out.keep hB)
  have HB := Aside0.mk (below2 H4.out H4.out.size hB)
  have HP := Aside0.mk hRow
  clear H3 H4 hB hRow HF
  have HG : Aside0 (w.heap.size < w1.heap.size) := ⟨HV.out.lt⟩
  go_wp2_with fail
  go_loopw [3, 5] (fun v n wr => ∃ k gs p : Nat, k ≤ nb ∧ n = .int .i64 p ∧ p ≤ 17592186044600 ∧ v = .slice (some ⟨gs, 0, none⟩) 8 8 ∧ Aside0 (p = 64 * k) ∧ Aside0 (W8 wr gs (fd x0 ⟨PL.toArray⟩ k)) ∧ Aside0 (RowB w.heap.size 5 (.slice (some ⟨gb, 0, none⟩) L cb) PL wr) ∧ Aside0 (Below w.heap.size w wr)) (fun _ n _ => 64 * nb + 1 - (intOf n).toNat)
  case atStart => exact ⟨0, w.heap.size, 0, by omega, rfl, by omega, rfl, ⟨by omega⟩, HV, ⟨HP.out.raise (by simp)⟩, HB⟩
  case round =>
    clear HV HP HB
    obtain ⟨k, gs, p, hk, rfl, hpb, rfl, HPK, HV, HP, HB⟩ := hrel
    by_cases hlt : k < nb
    · have hlt2 : (p : Int) < (L : Int) := by have := HN.out; have := HPK.out; omega
      have hle2 : (p : Int) + 64 ≤ (L : Int) := by have := HN.out; have := HPK.out; omega
      have hle3 : (p : Int) + 64 ≤ (cb : Int) := by omega
      have hne : ¬ cb = p := by omega
      have hS : Hid (bv (fd x0 ⟨PL.toArray⟩ k) ((⟨PL.toArray⟩ : ByteArray).extract (64 * k) (64 * k + 64)) = fd x0 ⟨PL.toArray⟩ (k + 1)) := Lib.hid rfl
      have hchl : ((PL.drop (64 * k)).take 64).length = 64 := by
        rw [List.length_take, List.length_drop]
        have := HL.out
        have := HPK.out
        omega
      have hcx : ∀ (j : Nat) (z : UInt8), ((PL.drop (64 * k)).take 64)[j]? = some z → wr.cell? ⟨gb, p + j, none⟩ = some (.int .u8 (z.toNat : Int)) := by
        intro j z hz
        rw [List.getElem?_take] at hz
        split at hz
        · rw [List.getElem?_drop, ← HPK.out] at hz
          exact HP.out.cells (g := gb) rfl (p + j) z hz
        · cases hz
      have hchunk : (⟨((PL.drop (64 * k)).take 64).toArray⟩ : ByteArray) = (⟨PL.toArray⟩ : ByteArray).extract (64 * k) (64 * k + 64) := by
        have := B_extract PL (64 * k) (64 * k + 64)
        rw [Nat.add_sub_cancel_left] at this
        exact this.symm
      have hh := Lib.hid (refblock_calls gs gb p (cb - p) (fd x0 ⟨PL.toArray⟩ k) ((PL.drop (64 * k)).take 64) hchl (by omega) wr HV.out HV.out.lt hcx)
      rw [hchunk, hS.out] at hh
      clear hchl hcx hchunk hS
      generalize fd x0 ⟨PL.toArray⟩ k = y at *
      obtain ⟨y1, hy1⟩ : ∃ y1, y1 = fd x0 ⟨PL.toArray⟩ (k + 1) := ⟨_, rfl⟩
      rw [← hy1] at hh
      have hYk := Lib.hid hy1
      clear hy1
      have hw1 : IntKind.i64.wrap ((p : Int) + 64) = (p : Int) + 64 := IntWalk.i64_in _ (by omega)
      go_wp2_with fail
      refine Calls.mono hh.out ?_
      clear hh
      rintro e w2 ⟨g2, rfl, hV2, _, hB2⟩
      have HV := Aside0.mk hV2
      have HP := Aside0.mk (HP.out.below hB2)
      have HB := Aside0.mk (below2 HB.out HB.out.size hB2)
      clear hV2 hB2
      go_wp2_with fail
      go_roundw
      case measure => simp [intOf]; have := HPK.out; omega
      case rel => exact ⟨k + 1, g2, p + 64, by omega, by go_num, by omega, rfl, ⟨by have := HPK.out; omega⟩, ⟨by rw [← hYk.out]; exact HV.out⟩, HP, HB⟩
    · have hge : ¬ (p : Int) < (L : Int) := by have := HN.out; have := HPK.out; omega
      have HK := Lib.hid (HR.out k (by omega))
      clear hlt hk
      generalize fd x0 ⟨PL.toArray⟩ k = y at *
      have hgs := HV.out.lt
      have HO : Aside0 (RowB wr.heap.size 5 (.slice none 0 0) (outk y.l 0) wr) := ⟨.inl ⟨rfl, rfl⟩⟩
      have HQ : Aside0 (Below wr.heap.size wr wr) := ⟨Below.refl _ _⟩
      go_wp2_with fail
      have hbw : w.heap.size ≤ wr.heap.size := HB.out.size
      obtain ⟨wq, rfl⟩ : ∃ wo : World, wo = wr := ⟨_, rfl⟩
      obtain ⟨bb, hbb⟩ : ∃ bb : Nat, bb = wq.heap.size := ⟨_, rfl⟩
      have hbq : bb ≤ wq.heap.size := by omega
      rw [← hbb] at HO HQ hgs hbw
      go_loopw [6, 7] (fun v n wr => ∃ (j : Nat) (A : Option Addr) (m c : Nat), j ≤ 8 ∧ n = .int .i64 j ∧ v = .slice A m c ∧ Aside0 (RowB bb 5 (.slice A m c) (outk y.l j) wr) ∧ Aside0 (Below bb wq wr)) (fun _ n _ => 8 - (intOf n).toNat)
      case atStart => exact ⟨0, _, _, _, by omega, rfl, rfl, HO, HQ⟩
      case round =>
        clear HO HQ
        obtain ⟨j, A, m, c, hj, rfl, rfl, HO, HQ⟩ := hrel
        by_cases hlt : j < 8
        · have hcj := (HQ.out.cell (p := ⟨gs, j, none⟩) hgs).trans (HV.out.get j hlt)
          have HO2 : Hid (outk y.l (j + 1) = outk y.l j ++ be4 (y.l.getD j 0)) := Lib.hid rfl
          generalize y.l.getD j 0 = xx at *
          have hji : (j : Int) < 8 := by omega
          go_wp2_with fail
          refine start_ (n := 27) (S := fun w' => w'.cell? ⟨gs, j, none⟩ = some (.int .u32 xx) ∧ Aside0 (RowB bb 5 (.slice A m c) (outk y.l j) w') ∧ Aside0 (Below bb wq w')) (ds := [25]) #[false, false, false, false, false, false, false, false, false, false, false, false, false, false, false, false, false, false, false, false, false, false, false, false, false, false, false] (by kernel_rfl) rfl rfl ⟨hcj, ⟨HO.out.below (Below.drew (Below.refl _ _))⟩, ⟨Below.drew HQ.out⟩⟩ (fun hHeld => ?_)
          generalize wr.drew = wn at hHeld ⊢
          refine pure_ (i := 0) (N := some 28) (v := ?_) (a' := ?_) #[true, false, false, false, false, false, false, false, false, false, false, false, false, false, false, false, false, false, false, false, false, false, false, false, false, false, false] rfl rfl (by kernel_rfl) (fun _ _ _ h => h) (Or.inl ⟨by rfl, ?_⟩) ?_ ?_
          rotate_left
          · intro w'
            go_simp
            with_reducible rfl
          rotate_left
          · simp only [Act.put, List.setIfInBounds_toArray, List.set_cons_zero, List.set_cons_succ]
            rfl
          refine pure_ (i := 1) (N := some 29) (v := ?_) (a' := ?_) #[true, true, false, false, false, false, false, false, false, false, false, false, false, false, false, false, false, false, false, false, false, false, false, false, false, false, false] rfl rfl (by kernel_rfl) (fun _ _ _ h => h) (Or.inl ⟨by rfl, ?_⟩) ?_ ?_
          rotate_left
          · intro w'
            go_simp
            with_reducible rfl
          rotate_left
          · simp only [Act.put, List.setIfInBounds_toArray, List.set_cons_zero, List.set_cons_succ]
            rfl
          refine pure_ (i := 2) (N := some 30) (v := ?_) (a' := ?_) #[true, true, true, false, false, false, false, false, false, false, false, false, false, false, false, false, false, false, false, false, false, false, false, false, false, false, false] rfl rfl (by kernel_rfl) (fun _ _ _ h => h) (Or.inl ⟨by rfl, ?_⟩) ?_ ?_
          rotate_left
          · intro w'
            go_simp
            with_reducible rfl
          rotate_left
          · simp only [Act.put, List.setIfInBounds_toArray, List.set_cons_zero, List.set_cons_succ]
            rfl
          refine pure_ (i := 3) (N := some 31) (v := ?_) (a' := ?_) #[true, true, true, true, false, false, false, false, false, false, false, false, false, false, false, false, false, false, false, false, false, false, false, false, false, false, false] rfl rfl (by kernel_rfl) (fun _ _ _ h => h) (Or.inl ⟨by rfl, ?_⟩) ?_ ?_
          rotate_left
          · intro w'
            go_simp
            with_reducible rfl
          rotate_left
          · simp only [Act.put, List.setIfInBounds_toArray, List.set_cons_zero, List.set_cons_succ]
            rfl
          refine pure_ (i := 7) (N := some 35) (v := ?_) (a' := ?_) #[true, true, true, true, false, false, false, true, false, false, false, false, false, false, false, false, false, false, false, false, false, false, false, false, false, false, false] rfl rfl (by kernel_rfl) (fun _ _ _ h => h) (Or.inl ⟨by rfl, ?_⟩) ?_ ?_
          rotate_left
          · intro w'
            go_simp
            with_reducible rfl
          rotate_left
          · simp only [Act.put, List.setIfInBounds_toArray, List.set_cons_zero, List.set_cons_succ]
            rfl
          refine pure_ (i := 8) (N := some 36) (v := ?_) (a' := ?_) #[true, true, true, true, false, false, false, true, true, false, false, false, false, false, false, false, false, false, false, false, false, false, false, false, false, false, false] rfl rfl (by kernel_rfl) (fun _ _ _ h => h) (Or.inl ⟨by rfl, ?_⟩) ?_ ?_
          rotate_left
          · intro w'
            go_simp
            with_reducible rfl
          rotate_left
          · simp only [Act.put, List.setIfInBounds_toArray, List.set_cons_zero, List.set_cons_succ]
            rfl
          refine pure_ (i := 9) (N := some 37) (v := ?_) (a' := ?_) #[true, true, true, true, false, false, false, true, true, true, false, false, false, false, false, false, false, false, false, false, false, false, false, false, false, false, false] rfl rfl (by kernel_rfl) (fun _ _ _ h => h) (Or.inl ⟨by rfl, ?_⟩) ?_ ?_
          rotate_left
          · intro w'
            go_simp
            with_reducible rfl
          rotate_left
          · simp only [Act.put, List.setIfInBounds_toArray, List.set_cons_zero, List.set_cons_succ]
            rfl
          refine pure_ (i := 13) (N := some 41) (v := ?_) (a' := ?_) #[true, true, true, true, false, false, false, true, true, true, false, false, false, true, false, false, false, false, false, false, false, false, false, false, false, false, false] rfl rfl (by kernel_rfl) (fun _ _ _ h => h) (Or.inl ⟨by rfl, ?_⟩) ?_ ?_
          rotate_left
          · intro w'
            go_simp
            with_reducible rfl
          rotate_left
          · simp only [Act.put, List.setIfInBounds_toArray, List.set_cons_zero, List.set_cons_succ]
            rfl
          refine pure_ (i := 14) (N := some 42) (v := ?_) (a' := ?_) #[true, true, true, true, false, false, false, true, true, true, false, false, false, true, true, false, false, false, false, false, false, false, false, false, false, false, false] rfl rfl (by kernel_rfl) (fun _ _ _ h => h) (Or.inl ⟨by rfl, ?_⟩) ?_ ?_
          rotate_left
          · intro w'
            go_simp
            with_reducible rfl
          rotate_left
          · simp only [Act.put, List.setIfInBounds_toArray, List.set_cons_zero, List.set_cons_succ]
            rfl
          refine pure_ (i := 15) (N := some 43) (v := ?_) (a' := ?_) #[true, true, true, true, false, false, false, true, true, true, false, false, false, true, true, true, false, false, false, false, false, false, false, false, false, false, false] rfl rfl (by kernel_rfl) (fun _ _ _ h => h) (Or.inl ⟨by rfl, ?_⟩) ?_ ?_
          rotate_left
          · intro w'
            go_simp
            with_reducible rfl
          rotate_left
          · simp only [Act.put, List.setIfInBounds_toArray, List.set_cons_zero, List.set_cons_succ]
            rfl
          refine pure_ (i := 19) (N := some 47) (v := ?_) (a' := ?_) #[true, true, true, true, false, false, false, true, true, true, false, false, false, true, true, true, false, false, false, true, false, false, false, false, false, false, false] rfl rfl (by kernel_rfl) (fun _ _ _ h => h) (Or.inl ⟨by rfl, ?_⟩) ?_ ?_
          rotate_left
          · intro w'
            go_simp
            with_reducible rfl
          rotate_left
          · simp only [Act.put, List.setIfInBounds_toArray, List.set_cons_zero, List.set_cons_succ]
            rfl
          refine pure_ (i := 20) (N := some 48) (v := ?_) (a' := ?_) #[true, true, true, true, false, false, false, true, true, true, false, false, false, true, true, true, false, false, false, true, true, false, false, false, false, false, false] rfl rfl (by kernel_rfl) (fun _ _ _ h => h) (Or.inl ⟨by rfl, ?_⟩) ?_ ?_
          rotate_left
          · intro w'
            go_simp
            with_reducible rfl
          rotate_left
          · simp only [Act.put, List.setIfInBounds_toArray, List.set_cons_zero, List.set_cons_succ]
            rfl
          refine pure_ (i := 21) (N := some 49) (v := ?_) (a' := ?_) #[true, true, true, true, false, false, false, true, true, true, false, false, false, true, true, true, false, false, false, true, true, true, false, false, false, false, false] rfl rfl (by kernel_rfl) (fun _ _ _ h => h) (Or.inl ⟨by rfl, ?_⟩) ?_ ?_
          rotate_left
          · intro w'
            go_simp
            with_reducible rfl
          rotate_left
          · simp only [Act.put, List.setIfInBounds_toArray, List.set_cons_zero, List.set_cons_succ]
            rfl
          refine take_ (i := 4) (N := some 32) (v := ?_) (a' := ?_) #[true, true, true, true, true, false, false, true, true, true, false, false, false, true, true, true, false, false, false, true, true, true, false, false, false, false, false] rfl rfl (by kernel_rfl) (fun _ _ _ h => h) (Or.inl ⟨by rfl, ?_⟩) hHeld ?_ ?_
          rotate_left
          · rintro w' ⟨s0, s1, s2⟩
            go_simp
            with_reducible rfl
          rotate_left
          · simp only [Act.put, List.setIfInBounds_toArray, List.set_cons_zero, List.set_cons_succ]
            rfl
          refine pure_ (i := 5) (N := some 33) (v := ?_) (a' := ?_) #[true, true, true, true, true, true, false, true, true, true, false, false, false, true, true, true, false, false, false, true, true, true, false, false, false, false, false] rfl rfl (by kernel_rfl) (fun _ _ _ h => h) (Or.inl ⟨by rfl, ?_⟩) ?_ ?_
          rotate_left
          · intro w'
            go_simp
            with_reducible rfl
          rotate_left
          · simp only [Act.put, List.setIfInBounds_toArray, List.set_cons_zero, List.set_cons_succ]
            rfl
          refine pure_ (i := 6) (N := some 34) (v := ?_) (a' := ?_) #[true, true, true, true, true, true, true, true, true, true, false, false, false, true, true, true, false, false, false, true, true, true, false, false, false, false, false] rfl rfl (by kernel_rfl) (fun _ _ _ h => h) (Or.inl ⟨by rfl, ?_⟩) ?_ ?_
          rotate_left
          · intro w'
            go_simp
            with_reducible rfl
          rotate_left
          · simp only [Act.put, List.setIfInBounds_toArray, List.set_cons_zero, List.set_cons_succ]
            rfl
          refine take_ (i := 10) (N := some 38) (v := ?_) (a' := ?_) #[true, true, true, true, true, true, true, true, true, true, true, false, false, true, true, true, false, false, false, true, true, true, false, false, false, false, false] rfl rfl (by kernel_rfl) (fun _ _ _ h => h) (Or.inl ⟨by rfl, ?_⟩) hHeld ?_ ?_
          rotate_left
          · rintro w' ⟨s0, s1, s2⟩
            go_simp
            with_reducible rfl
          rotate_left
          · simp only [Act.put, List.setIfInBounds_toArray, List.set_cons_zero, List.set_cons_succ]
            rfl
          refine pure_ (i := 11) (N := some 39) (v := ?_) (a' := ?_) #[true, true, true, true, true, true, true, true, true, true, true, true, false, true, true, true, false, false, false, true, true, true, false, false, false, false, false] rfl rfl (by kernel_rfl) (fun _ _ _ h => h) (Or.inl ⟨by rfl, ?_⟩) ?_ ?_
          rotate_left
          · intro w'
            go_simp
            with_reducible rfl
          rotate_left
          · simp only [Act.put, List.setIfInBounds_toArray, List.set_cons_zero, List.set_cons_succ]
            rfl
          refine pure_ (i := 12) (N := some 40) (v := ?_) (a' := ?_) #[true, true, true, true, true, true, true, true, true, true, true, true, true, true, true, true, false, false, false, true, true, true, false, false, false, false, false] rfl rfl (by kernel_rfl) (fun _ _ _ h => h) (Or.inl ⟨by rfl, ?_⟩) ?_ ?_
          rotate_left
          · intro w'
            go_simp
            with_reducible rfl
          rotate_left
          · simp only [Act.put, List.setIfInBounds_toArray, List.set_cons_zero, List.set_cons_succ]
            rfl
          refine take_ (i := 16) (N := some 44) (v := ?_) (a' := ?_) #[true, true, true, true, true, true, true, true, true, true, true, true, true, true, true, true, true, false, false, true, true, true, false, false, false, false, false] rfl rfl (by kernel_rfl) (fun _ _ _ h => h) (Or.inl ⟨by rfl, ?_⟩) hHeld ?_ ?_
          rotate_left
          · rintro w' ⟨s0, s1, s2⟩
            go_simp
            with_reducible rfl
          rotate_left
          · simp only [Act.put, List.setIfInBounds_toArray, List.set_cons_zero, List.set_cons_succ]
            rfl
          refine pure_ (i := 17) (N := some 45) (v := ?_) (a' := ?_) #[true, true, true, true, true, true, true, true, true, true, true, true, true, true, true, true, true, true, false, true, true, true, false, false, false, false, false] rfl rfl (by kernel_rfl) (fun _ _ _ h => h) (Or.inl ⟨by rfl, ?_⟩) ?_ ?_
          rotate_left
          · intro w'
            go_simp
            with_reducible rfl
          rotate_left
          · simp only [Act.put, List.setIfInBounds_toArray, List.set_cons_zero, List.set_cons_succ]
            rfl
          refine pure_ (i := 18) (N := some 46) (v := ?_) (a' := ?_) #[true, true, true, true, true, true, true, true, true, true, true, true, true, true, true, true, true, true, true, true, true, true, false, false, false, false, false] rfl rfl (by kernel_rfl) (fun _ _ _ h => h) (Or.inl ⟨by rfl, ?_⟩) ?_ ?_
          rotate_left
          · intro w'
            go_simp
            with_reducible rfl
          rotate_left
          · simp only [Act.put, List.setIfInBounds_toArray, List.set_cons_zero, List.set_cons_succ]
            rfl
          refine take_ (i := 22) (N := some 50) (v := ?_) (a' := ?_) #[true, true, true, true, true, true, true, true, true, true, true, true, true, true, true, true, true, true, true, true, true, true, true, false, false, false, false] rfl rfl (by kernel_rfl) (fun _ _ _ h => h) (Or.inl ⟨by rfl, ?_⟩) hHeld ?_ ?_
          rotate_left
          · rintro w' ⟨s0, s1, s2⟩
            go_simp
            with_reducible rfl
          rotate_left
          · simp only [Act.put, List.setIfInBounds_toArray, List.set_cons_zero, List.set_cons_succ]
            rfl
          refine pure_ (i := 23) (N := some 51) (v := ?_) (a' := ?_) #[true, true, true, true, true, true, true, true, true, true, true, true, true, true, true, true, true, true, true, true, true, true, true, true, false, false, false] rfl rfl (by kernel_rfl) (fun _ _ _ h => h) (Or.inl ⟨by rfl, ?_⟩) ?_ ?_
          rotate_left
          · intro w'
            go_simp
            with_reducible rfl
          rotate_left
          · simp only [Act.put, List.setIfInBounds_toArray, List.set_cons_zero, List.set_cons_succ]
            rfl
          refine one_ (i := 24) (N := some 52) #[true, true, true, true, true, true, true, true, true, true, true, true, true, true, true, true, true, true, true, true, true, true, true, true, true, false, false] rfl rfl (by kernel_rfl) (by decide) (fun K hK => ?_)
          refine value_ (w1 := ?_) (v := ?_) (by rfl) rfl ?_ ?_
          rotate_left 2
          · go_simp
            constructor
            · rfl
            · rfl
          have hA : Below wn.heap.size wn (wn.alloc (.cells #[.int .u8 (IntKind.u8.wrap (xx / 16777216)), .int .u8 (IntKind.u8.wrap (xx / 65536)), .int .u8 (IntKind.u8.wrap (xx / 256)), .int .u8 (IntKind.u8.wrap xx)] 5)) := below_alloc (Below.refl _ _) _
          refine hK.out _ _ ⟨((hA.cell (Nat.lt_of_lt_of_le hgs (Nat.le_trans hbq hHeld.2.2.out.size))).trans hHeld.1), ⟨hHeld.2.1.out.below hA⟩, ⟨below2 hHeld.2.2.out (Nat.le_trans hbq hHeld.2.2.out.size) hA⟩⟩ (fun hHeld => ?_)
          clear hK K
          refine norm_ (a' := ?_) ?_ ?_
          rotate_left
          · show Act.put _ (some 52) _ = _
            simp only [Act.put, List.setIfInBounds_toArray, List.set_cons_zero, List.set_cons_succ]
            rfl
          refine last_ (i := 25) (N := some 53) #[true, true, true, true, true, true, true, true, true, true, true, true, true, true, true, true, true, true, true, true, true, true, true, true, true, true, false] rfl rfl (by kernel_rfl) (by decide) (fun K hK => ?_)
          obtain ⟨v2, w2, hr2, hO2, hg2⟩ := run_append_rowB (P := Tryd.prog) (wn.alloc (.cells #[.int .u8 (IntKind.u8.wrap (xx / 16777216)), .int .u8 (IntKind.u8.wrap (xx / 65536)), .int .u8 (IntKind.u8.wrap (xx / 256)), .int .u8 (IntKind.u8.wrap xx)] 5)) bb 59 59 5 i0 (by kernel_rfl) hi hz0 hz1 hz2 (.slice A m c) (outk y.l j) (be4 xx) hHeld.2.1.out ⟨wn.heap.size, 0, none⟩ 4 (be4_cells xx wn) (by rw [outk_len]; simp [be4]; omega) (Nat.le_trans hbq hHeld.2.2.out.size)
          have hQ2 := hHeld.2.2.out.grown hg2 (Nat.le_trans hbq hHeld.2.2.out.size) (fun k hk => (hHeld.2.1.out.lt k hk).1)
          refine value_ (v := v2) (w1 := w2) (by rfl) rfl (app_run _ (.tmp 28) (.tmp 52) rfl rfl rfl hr2) ?_
          refine hK.out _ _ ?_
          clear hK K
          refine norm_ (a' := ?_) ?_ ?_
          rotate_left
          · show Act.put _ (some 53) _ = _
            simp only [Act.put, List.setIfInBounds_toArray, List.set_cons_zero, List.set_cons_succ]
            rfl
          refine pure_ (i := 26) (N := some 6) (v := ?_) (a' := ?_) #[true, true, true, true, true, true, true, true, true, true, true, true, true, true, true, true, true, true, true, true, true, true, true, true, true, true, true] rfl rfl (by kernel_rfl) (fun _ _ _ h => h) (Or.inl ⟨by rfl, ?_⟩) ?_ ?_
          rotate_left
          · intro w'
            go_simp
            with_reducible rfl
          rotate_left
          · simp only [Act.put, List.setIfInBounds_toArray, List.set_cons_zero, List.set_cons_succ]
            rfl
          refine done_ (by kernel_rfl) ?_
          have HO := Aside0.mk hO2
          have HQ := Aside0.mk hQ2
          obtain ⟨g4, c4, rfl, _⟩ := hO2.ne (by simp [be4])
          clear hO2 hQ2 hr2 hg2 hA hHeld hcj
          go_wp2_with fail
          go_roundw
          case measure => simp [intOf]; omega
          case rel => exact ⟨j + 1, _, _, _, by omega, by go_num, rfl, ⟨by rw [HO2.out]; exact HO.out⟩, HQ⟩
        · have HJ := Lib.hid (show j = 8 by omega)
          have hjn : ¬ (j : Int) < 8 := by omega
          have hRj := HK.out j HJ.out
          have HRj := Lib.hid hRj
          have hO := HO.out
          rw [hRj] at hO
          clear hlt hj hRj HO
          have hR0 : R ≠ [] := by
            intro h0
            have := congrArg List.length HRj.out
            rw [outk_len, h0, HJ.out] at this
            cases this
          obtain ⟨g5, c5, hv5, _⟩ := hO.ne hR0
          simp only [Value.slice.injEq] at hv5
          obtain ⟨rfl, rfl, rfl⟩ := hv5
          have hcv := run_string_bytes (P := Tryd.prog) wr 59 9 5 Tryd.underlying59 Tryd.underlying5 Tryd.underlying9 g5 0 c R (fun j x hx => by rw [Nat.zero_add]; exact hO.cells (g := g5) rfl j x hx)
          have HF := Aside0.mk (HB.out.trans (HQ.out.mono hbw))
          clear hO
          go_wp2_with fail
          go_ret
          exact ⟨rfl, HF.out⟩
end Go.Proofs.YtpgfafpjfdbjmaaDoor
end
section
namespace Go.Proofs.YtpgfafpjfdbjmaaDoor
open Go.RowKit Q Go.Proofs.YtpgfafpjfdbjmaaDoorW.PrintWords Go.Proofs.YtpgfafpjfdbjmaaDoorW.PrintLast Go.Proofs.YtpgfafpjfdbjmaaDoorW.PrintMore
theorem fd_prefix (x : V8) (a b : List UInt8) (q : Nat) (ha : 64 * q ≤ a.length) : fd x (B (a ++ b)) q = fd x (B a) q := by
  induction q with
  | zero => rfl
  | succ q ih =>
    rw [fd, fd, ih (by omega), B_extract, B_extract]
    congr 2
    rw [List.drop_append_of_le_length (by omega), List.take_append_of_le_length (by rw [List.length_drop]; omega)]
theorem fd_append (x : V8) (a b : List UInt8) (q : Nat) (ha : a.length = 64 * q) (k : Nat) : fd x (B (a ++ b)) (q + k) = fd (fd x (B a) q) (B b) k := by
  induction k with
  | zero => exact fd_prefix x a b q (by omega)
  | succ k ih =>
    rw [← Nat.add_assoc, fd, fd, ih, B_extract, B_extract]
    congr 2
    rw [List.drop_append, ha, show 64 * (q + k) - 64 * q = 64 * k by omega, List.drop_of_length_le (by rw [ha]; omega), List.nil_append, show 64 * (q + k) + 64 - 64 * (q + k) = 64 by omega, show 64 * k + 64 - 64 * k = 64 by omega]
theorem parts (l : List UInt8) : ∃ a b : List UInt8, l = a ++ b ∧ a.length = 64 * (l.length / 64) ∧ b.length = l.length % 64 ∧ b = l.drop (64 * (l.length / 64)) ∧ a = l.take (64 * (l.length / 64)) :=
  ⟨l.take (64 * (l.length / 64)), l.drop (64 * (l.length / 64)), (List.take_append_drop _ _).symm, by rw [List.length_take]; omega, by rw [List.length_drop]; omega, rfl, rfl⟩
theorem rest_eq (l : List UInt8) : (B l).extract (64 * ((B l).size / 64)) (B l).size = B (l.drop (64 * (l.length / 64))) := by
  rw [B_size, B_extract, List.take_of_length_le (by rw [List.length_drop]; omega)]
theorem fd_more (x : V8) (l m : List UInt8) : fd (fd x (B l) (l.length / 64)) (B (l.drop (64 * (l.length / 64)) ++ m)) ((l.drop (64 * (l.length / 64)) ++ m).length / 64) = fd x (B (l ++ m)) ((l ++ m).length / 64) := by
  obtain ⟨a, b, hl, ha, hb, hbd, hat⟩ := parts l
  rw [← hbd]
  have e1 : fd x (B l) (l.length / 64) = fd x (B a) (l.length / 64) := by
    conv => lhs; rw [hl]
    rw [show (a ++ b).length = l.length by rw [← hl]]
    exact fd_prefix x a b _ (by omega)
  rw [e1, ← fd_append x a (b ++ m) _ ha, ← List.append_assoc, ← hl]
  congr 1
  simp only [List.length_append]
  omega
theorem fill0_B (l : List UInt8) : fill0 (B l) = l ++ [128] := rfl
theorem fill_more (l : List UInt8) (n : Nat) : fill2 (B l) n = l.take (64 * (l.length / 64)) ++ fill2 (B (l.drop (64 * (l.length / 64)))) n := by
  unfold fill2 fill1
  rw [fill0_B, fill0_B]
  have hp : pz (l ++ [128]).length = pz (l.drop (64 * (l.length / 64)) ++ [128]).length := by
    unfold pz
    simp only [List.length_append, List.length_drop, List.length_cons, List.length_nil]
    omega
  rw [hp]
  simp only [← List.append_assoc]
  rw [List.take_append_drop]
def SHA (l : List UInt8) : List UInt8 := outk (fd H8 (B (fill2 (B l) l.length)) ((fill2 (B l) l.length).length / 64)).l 8
theorem sha_rest (l : List UInt8) : outk (fd (fd H8 (B l) (l.length / 64)) (B (fill2 (B (l.drop (64 * (l.length / 64)))) l.length)) ((fill2 (B (l.drop (64 * (l.length / 64)))) l.length).length / 64)).l 8 = SHA l := by
  obtain ⟨a, b, hl, ha, hb, hbd, hat⟩ := parts l
  unfold SHA
  rw [← hbd]
  have e1 : fd H8 (B l) (l.length / 64) = fd H8 (B a) (l.length / 64) := by
    conv => lhs; rw [hl]
    rw [show (a ++ b).length = l.length by rw [← hl]]
    exact fd_prefix H8 a b _ (by omega)
  have e2 := fill_more l l.length
  rw [← hbd, ← hat] at e2
  rw [e1, ← fd_append H8 a _ _ ha, e2]
  congr 3
  rw [List.length_append, ha]
  omega
theorem SHA_len (l : List UInt8) : (SHA l).length = 32 := outk_len _ 8
def Is (w : World) (g : Nat) (l : List UInt8) : Prop := DSt w g (fd H8 (B l) (l.length / 64)) (B (l.drop (64 * (l.length / 64)))) l.length
theorem new_is (w : World) : Calls Tryd.prog 48 #[] w fun e w' => ∃ g, e = .returned (.pointer (some ⟨g, 0, none⟩)) ∧ Is w' g [] ∧ w.heap.size ≤ g ∧ Below w.heap.size w w' := dnew_calls w
theorem add_is (g : Nat) (l m : List UInt8) (w : World) (h : Is w g l) (hl : l.length ≤ 140737488355328) (hm : m.length ≤ 140737488355328) :
    Calls Tryd.prog 49 #[.pointer (some ⟨g, 0, none⟩), .string (B m)] w fun e w' => e = .returned (.int .i64 (l ++ m).length) ∧ Is w' g (l ++ m) ∧ Bf w.heap.size g w w' := by
  refine (dadd_calls g _ _ (B m) l.length w h (by rw [B_size, List.length_drop]; omega) (by rw [B_size]; exact hm) hl).mono ?_
  rintro e w' ⟨rfl, hD, hF⟩
  refine ⟨by rw [B_size, List.length_append], ?_, hF⟩
  unfold Is
  rw [B_append, B_size, B_size] at hD
  rw [← fd_more]
  have e2 : (B (l.drop (64 * (l.length / 64)) ++ m)).extract (64 * ((l.drop (64 * (l.length / 64)) ++ m).length / 64)) (l.drop (64 * (l.length / 64)) ++ m).length = B ((l ++ m).drop (64 * ((l.length + m.length) / 64))) := by
    have := rest_eq (l.drop (64 * (l.length / 64)) ++ m)
    rw [B_size] at this
    rw [this]
    obtain ⟨a, b, hl', ha, hb, hbd, hat⟩ := parts l
    rw [← hbd]
    have hlm : l ++ m = a ++ (b ++ m) := by rw [← List.append_assoc, ← hl']
    have hN : 64 * ((l.length + m.length) / 64) = a.length + 64 * ((b ++ m).length / 64) := by
      rw [List.length_append, ha]
      omega
    rw [hN, hlm, List.drop_length_add_append]
  rw [e2] at hD
  simp only [List.length_append] at hD ⊢
  exact hD
theorem sum_is (g : Nat) (l : List UInt8) (w : World) (h : Is w g l) (hl : l.length ≤ 140737488355328) :
    Calls Tryd.prog 50 #[.pointer (some ⟨g, 0, none⟩)] w fun e w' => e = .returned (.string (B (SHA l))) ∧ Below w.heap.size w w' := by
  refine (dsum_calls g _ _ l.length w h (by rw [B_size, List.length_drop]; omega) hl).mono ?_
  rintro e w' ⟨rfl, hB⟩
  refine ⟨?_, hB⟩
  rw [← sha_rest l]
  rfl
set_option maxRecDepth 100000 in
set_option maxHeartbeats 400000 in
theorem dsum_all (l : List UInt8) (hl : l.length ≤ 140737488355328) (w : World) : Calls Tryd.prog 29 #[.string (B l)] w fun e w' => e = .returned (.string (B (SHA l))) ∧ Below w.heap.size w w' := by
  generalize hbl : B l = s
  have HBL := Lib.hid hbl
  clear hbl
  go_enter Tryd.func29, Tryd.ntmps29
  go_wp2_with fail
  refine Calls.mono (new_is w) ?_
  rintro e w1 ⟨g, rfl, hI, hg, hB⟩
  have HI := Aside0.mk hI
  have HB := Aside0.mk hB
  clear hI hB
  go_wp2_with fail
  rw [← HBL.out]
  refine Calls.mono (add_is g [] l w1 HI.out (Nat.zero_le _) hl) ?_
  rintro e w2 ⟨rfl, hI, hF⟩
  have HI := Aside0.mk hI
  have HB := Aside0.mk (HB.out.trans (hF.below HB.out.size hg))
  clear hI hF
  go_wp2_with fail
  refine Calls.mono (sum_is g l w2 HI.out hl) ?_
  rintro e w3 ⟨rfl, hB3⟩
  have HB := Aside0.mk (below2 HB.out HB.out.size hB3)
  clear hB3
  go_wp2_with fail
  go_ret
  exact ⟨rfl, HB.out⟩
theorem refsum_all (l : List UInt8) (hl : l.length ≤ 17592186044416) (w : World) : Calls Tryd.prog 40 #[.string (B l)] w fun e w' => e = .returned (.string (B (SHA l))) ∧ Below w.heap.size w w' := by
  have h64 := fill2_64 (B l) (B l).size
  refine refsum_walk (B l) (by rw [B_size]; exact hl) (fill2 (B l) (B l).size).length ((fill2 (B l) (B l).size).length / 64) (fill2 (B l) (B l).size) rfl rfl h64 H8 rfl (SHA l) ?_ w
  rintro i rfl j rfl
  rw [B_size]
  rfl
end Go.Proofs.YtpgfafpjfdbjmaaDoor
end
section
namespace Go.Proofs.YtpgfafpjfdbjmaaDoor
open Go.RowKit Q Go.Proofs.YtpgfafpjfdbjmaaDoorW.PrintWords Go.Proofs.YtpgfafpjfdbjmaaDoorW.PrintLast Go.Proofs.YtpgfafpjfdbjmaaDoorW.PrintMore
def digest_Sum.f (a0 : ByteArray) : Option ByteArray := if a0.size ≤ 17592186044416 then some (B (SHA a0.data.toList)) else none
theorem digest_Sum.calls (a0 : ByteArray) (r : ByteArray) (w : World) (h : digest_Sum.f a0 = some r) :
    Calls Tryd.prog 29 #[.string a0] w fun e w' => e = .returned (.string r) ∧ Below w.heap.size w w' := by
  unfold digest_Sum.f at h
  split at h
  · rename_i hs
    obtain rfl := Option.some.inj h
    have := dsum_all a0.data.toList (by rw [size_data]; omega) w
    rw [B_eta] at this
    exact this
  · cases h
def sluicegateref03_Sum.f (a0 : ByteArray) : Option ByteArray := if a0.size ≤ 17592186044416 then some (B (SHA a0.data.toList)) else none
theorem sluicegateref03_Sum.calls (a0 : ByteArray) (r : ByteArray) (w : World) (h : sluicegateref03_Sum.f a0 = some r) :
    Calls Tryd.prog 40 #[.string a0] w fun e w' => e = .returned (.string r) ∧ Below w.heap.size w w' := by
  unfold sluicegateref03_Sum.f at h
  split at h
  · rename_i hs
    obtain rfl := Option.some.inj h
    have := refsum_all a0.data.toList (by rw [size_data]; omega) w
    rw [B_eta] at this
    exact this
  · cases h
end Go.Proofs.YtpgfafpjfdbjmaaDoor
end
section
namespace Go.Proofs.YtpgfafpjfdbjmaaDoor
def enc (n : Nat) : List UInt8 := if n < 128 then [UInt8.ofNat n] else UInt8.ofNat (128 + n % 128) :: enc (n / 128)
termination_by n
decreasing_by omega
theorem enc_lt {n : Nat} (h : n < 128) : enc n = [UInt8.ofNat n] := by rw [enc, if_pos h]
theorem enc_ge {n : Nat} (h : 128 ≤ n) : enc n = UInt8.ofNat (128 + n % 128) :: enc (n / 128) := by rw [enc, if_neg (by omega)]
theorem enc_len (j : Nat) : ∀ n : Nat, n < 128 ^ (j + 1) → (enc n).length ≤ j + 1 := by
  induction j with
  | zero => intro n h; rw [enc_lt (by simpa using h)]; simp
  | succ j ih =>
    intro n h
    by_cases h1 : n < 128
    · rw [enc_lt h1]; simp
    · rw [enc_ge (by omega), List.length_cons]
      have : n / 128 < 128 ^ (j + 1) := by
        rw [Nat.pow_succ] at h
        exact Nat.div_lt_of_lt_mul (by omega)
      have := ih _ this
      omega
theorem u8_toNat (n : Nat) (h : n < 256) : (UInt8.ofNat n).toNat = n := UInt8.toNat_ofNat_of_lt' (by simpa using h)
def tk : List UInt8 → Nat → Nat → Nat × List UInt8 × Int
  | [], _, _ => (0, [], 3)
  | c :: l, i, n => if 128 ≤ c.toNat then (if i = 7 then (0, [], 4) else tk l (i + 1) (n + (c.toNat - 128) * 2 ^ (7 * i))) else if c.toNat = 0 ∧ 0 < i then (0, [], 4) else (n + c.toNat * 2 ^ (7 * i), l, 0)
theorem pow7 (i : Nat) : 2 ^ (7 * (i + 1)) = 128 * 2 ^ (7 * i) := by
  rw [show 7 * (i + 1) = 7 * i + 7 by omega, Nat.pow_add]; omega
theorem tk_enc (m : Nat) : ∀ (i n : Nat) (r : List UInt8), i ≤ 7 → m < 128 ^ (8 - i) → (0 < i → 0 < m) → tk (enc m ++ r) i n = (n + m * 2 ^ (7 * i), r, 0) := by
  induction m using Nat.strongRecOn with
  | ind m ih =>
    intro i n r hi hm h0
    by_cases h : m < 128
    · rw [enc_lt h]
      show tk (UInt8.ofNat m :: r) i n = _
      rw [tk, u8_toNat m (by omega), if_neg (by omega), if_neg (by omega)]
    · rw [enc_ge (by omega)]
      show tk (UInt8.ofNat (128 + m % 128) :: (enc (m / 128) ++ r)) i n = _
      rw [tk, u8_toNat _ (by omega), if_pos (by omega)]
      have hi6 : i ≠ 7 := by rintro rfl; simp at hm; omega
      rw [if_neg hi6, ih (m / 128) (by omega) (i + 1) _ r (by omega) ?_ (by omega)]
      · congr 1
        rw [pow7 i, Nat.add_sub_cancel_left]
        have e : m = 128 * (m / 128) + m % 128 := by omega
        generalize m / 128 = q at *
        generalize m % 128 = s at *
        subst e
        rw [Nat.add_mul, Nat.mul_comm 128 q, Nat.mul_assoc, Nat.add_assoc]
        congr 1
        rw [Nat.add_comm]
      · have e : 8 - i = (8 - (i + 1)) + 1 := by omega
        rw [e, Nat.pow_succ] at hm
        exact Nat.div_lt_of_lt_mul (by omega)
theorem tk_zero (m : Nat) (r : List UInt8) (h : m < 2 ^ 56) : tk (enc m ++ r) 0 0 = (m, r, 0) := by
  rw [tk_enc m 0 0 r (by omega) (by simpa using h) (by omega)]
  simp
theorem tk_inv : ∀ (l : List UInt8) (i n v : Nat) (r : List UInt8), i ≤ 7 → tk l i n = (v, r, 0) → ∃ m, l = enc m ++ r ∧ v = n + m * 2 ^ (7 * i) ∧ m < 128 ^ (8 - i) ∧ (0 < i → 0 < m)
  | [], i, n, v, r, hi, h => by simp [tk] at h
  | c :: l, i, n, v, r, hi, h => by
    rw [tk] at h
    have hc := c.toNat_lt
    by_cases h1 : 128 ≤ c.toNat
    · rw [if_pos h1] at h
      by_cases h7 : i = 7
      · rw [if_pos h7] at h; simp at h
      · rw [if_neg h7] at h
        obtain ⟨m, rfl, rfl, hm, h0⟩ := tk_inv l (i + 1) _ v r (by omega) h
        have hp : 0 < m := h0 (by omega)
        refine ⟨128 * m + (c.toNat - 128), ?_, ?_, ?_, fun _ => by omega⟩
        · have e1 : (128 * m + (c.toNat - 128)) / 128 = m := by omega
          have e2 : 128 + (128 * m + (c.toNat - 128)) % 128 = c.toNat := by omega
          have e3 : enc (128 * m + (c.toNat - 128)) = c :: enc m := by
            rw [enc_ge (n := 128 * m + (c.toNat - 128)) (by omega)]
            generalize 128 * m + (c.toNat - 128) = q at e1 e2 ⊢
            rw [e1, e2, UInt8.ofNat_toNat]
          rw [e3, List.cons_append]
        · rw [pow7 i, Nat.add_mul, Nat.add_assoc]
          rw [← Nat.mul_assoc, Nat.mul_comm m 128]
          generalize 128 * m * 2 ^ (7 * i) = x
          generalize (c.toNat - 128) * 2 ^ (7 * i) = y
          omega
        · have e : 8 - i = (8 - (i + 1)) + 1 := by omega
          rw [e, Nat.pow_succ]
          omega
    · rw [if_neg h1] at h
      by_cases h2 : c.toNat = 0 ∧ 0 < i
      · rw [if_pos h2] at h; simp at h
      · rw [if_neg h2] at h
        simp only [Prod.mk.injEq] at h
        obtain ⟨rfl, rfl, _⟩ := h
        refine ⟨c.toNat, by rw [enc_lt (by omega)]; simp, rfl, ?_, fun _ => by omega⟩
        have : 128 ^ 1 ≤ 128 ^ (8 - i) := Nat.pow_le_pow_right (by omega) (by omega)
        omega
theorem tk_inv0 {l : List UInt8} {v : Nat} {r : List UInt8} (h : tk l 0 0 = (v, r, 0)) : l = enc v ++ r ∧ v < 2 ^ 56 := by
  obtain ⟨m, h1, h2, h3, _⟩ := tk_inv l 0 0 v r (by omega) h
  simp at h2 h3
  subst h2
  exact ⟨h1, by omega⟩
theorem tk_err : ∀ (l : List UInt8) (i n : Nat), (tk l i n).2.2 = 0 ∨ (tk l i n = (0, [], 3)) ∨ (tk l i n = (0, [], 4))
  | [], i, n => .inr (.inl rfl)
  | c :: l, i, n => by
    rw [tk]
    split
    · split
      · exact .inr (.inr rfl)
      · exact tk_err l _ _
    · split
      · exact .inr (.inr rfl)
      · exact .inl rfl
theorem tk_le : ∀ (l : List UInt8) (i n : Nat), (tk l i n).2.1.length ≤ l.length
  | [], i, n => by simp [tk]
  | c :: l, i, n => by
    rw [tk]
    split
    · split
      · simp
      · have := tk_le l (i + 1) (n + (c.toNat - 128) * 2 ^ (7 * i))
        simp only [List.length_cons]; omega
    · split
      · simp
      · simp
theorem enc_len8 {m : Nat} (h : m < 2 ^ 56) : (enc m).length ≤ 8 := enc_len 7 m (by simpa using h)
def txt (s : List UInt8) : List UInt8 := enc s.length ++ s
def tkT (l : List UInt8) : List UInt8 × List UInt8 × Int :=
  if (tk l 0 0).2.2 ≠ 0 then ([], [], (tk l 0 0).2.2) else if (tk l 0 0).2.1.length < (tk l 0 0).1 then ([], [], 3) else ((tk l 0 0).2.1.take (tk l 0 0).1, (tk l 0 0).2.1.drop (tk l 0 0).1, 0)
theorem tkT_txt (s r : List UInt8) (h : s.length < 2 ^ 56) : tkT (txt s ++ r) = (s, r, 0) := by
  unfold tkT txt
  rw [List.append_assoc, tk_zero _ _ h]
  simp
theorem tkT_inv {l s r : List UInt8} (h : tkT l = (s, r, 0)) : l = txt s ++ r ∧ s.length < 2 ^ 56 := by
  unfold tkT at h
  by_cases h0 : (tk l 0 0).2.2 = 0
  · rw [if_neg (by simpa using h0)] at h
    by_cases h1 : (tk l 0 0).2.1.length < (tk l 0 0).1
    · rw [if_pos h1] at h; simp at h
    · rw [if_neg h1] at h
      simp only [Prod.mk.injEq, and_true] at h
      obtain ⟨hs, hr⟩ := h
      have ht : tk l 0 0 = ((tk l 0 0).1, (tk l 0 0).2.1, 0) := by rw [← h0]
      obtain ⟨hl, hv⟩ := tk_inv0 ht
      have hlen : s.length = (tk l 0 0).1 := by rw [← hs, List.length_take]; omega
      refine ⟨?_, by omega⟩
      unfold txt
      rw [hlen, ← hs, ← hr, List.append_assoc, List.take_append_drop]
      exact hl
  · rw [if_pos (by simpa using h0)] at h
    simp only [Prod.mk.injEq] at h
    exact absurd h.2.2 h0
theorem tkT_err (l : List UInt8) : (tkT l).2.2 = 0 ∨ tkT l = ([], [], 3) ∨ tkT l = ([], [], 4) := by
  unfold tkT
  rcases tk_err l 0 0 with h | h | h
  · rw [if_neg (by simpa using h)]
    split
    · exact .inr (.inl rfl)
    · exact .inl rfl
  · rw [h]; exact .inr (.inl rfl)
  · rw [h]; exact .inr (.inr rfl)
theorem tkT_le (l : List UInt8) : (tkT l).2.1.length ≤ l.length ∧ (tkT l).1.length ≤ l.length := by
  have := tk_le l 0 0
  unfold tkT
  split
  · simp
  · split
    · simp
    · simp only [List.length_take, List.length_drop]; omega
end Go.Proofs.YtpgfafpjfdbjmaaDoor
end
section
namespace Go.Proofs.YtpgfafpjfdbjmaaDoor.Q
open Go.RowKit Go.Proofs.YtpgfafpjfdbjmaaDoorW.PrintWords Go.Proofs.YtpgfafpjfdbjmaaDoorW.PrintLast Go.Proofs.YtpgfafpjfdbjmaaDoorW.PrintMore
attribute [local go_sem] max2_int min2_int max_two min_two max_three min_three max_four min_four   -- for this text's walks alone
set_option linter.unusedVariables false
set_option linter.unusedSimpArgs false
theorem eqA28 (d : Nat) (w : World) (x0 y0 : ByteArray) (x1 y1 : ByteArray) :
    (Op.equalIn (d + 2) 28 (.agg #[.string x0, .string x1]) (.agg #[.string y0, .string y1])).run Tryd.prog w = .ok (x0.toList == y0.toList && (x1.toList == y1.toList)) w := by
  refine eqA_of Tryd.underlying28 (by kernel_rfl) ?_
  refine eqf_cons (by rfl) (by go_simp; rfl) (by go_simp; rfl) (by go_simp) ?_
  exact eqf_last (by rfl) (by go_simp; rfl) (by go_simp; rfl) (by go_simp)
end Go.Proofs.YtpgfafpjfdbjmaaDoor.Q
end
section
namespace Go.Proofs.YtpgfafpjfdbjmaaDoor.Q
end Go.Proofs.YtpgfafpjfdbjmaaDoor.Q
end
section
namespace Go.Proofs.YtpgfafpjfdbjmaaDoor
open Go.RowKit Q Go.Proofs.YtpgfafpjfdbjmaaDoorW.PrintWords Go.Proofs.YtpgfafpjfdbjmaaDoorW.PrintLast Go.Proofs.YtpgfafpjfdbjmaaDoorW.PrintMore
theorem or128 : ∀ a : Fin 256, Go.bits .or .u8 (a.val : Int) 128 = ((128 + a.val % 128 : Nat) : Int) := by decide +kernel
theorem or128' (n : Nat) : Go.bits .or .u8 ((n : Int) % 256) 128 = ((128 + n % 128 : Nat) : Int) := by
  have h := or128 ⟨n % 256, Nat.mod_lt _ (by omega)⟩
  simp only at h
  rw [show ((n % 256 : Nat) : Int) = (n : Int) % 256 by omega] at h
  rw [h]
  congr 2
  omega
theorem wraps_i64 (n : Int) (h₀ : 0 ≤ n) (h₁ : n < 2 ^ 63) : IntKind.i64.wrap n = n := by rw [IntKind.wrap_i64]; omega
theorem bits_or_comm (a b : Nat) (ha : a < 2 ^ 63) (hb : b < 2 ^ 63) : Go.bits .or .i64 (a : Int) (b : Int) = Go.bits .or .i64 (b : Int) (a : Int) := by
  rw [(bits_nat .i64 63 (by decide) wraps_i64 a b ha hb).2, (bits_nat .i64 63 (by decide) wraps_i64 b a hb ha).2, Nat.or_comm]
theorem or_add (n c i : Nat) (hn : n < 2 ^ (7 * i)) (hc : c < 128) (hi : i ≤ 7) : Go.bits .or .i64 (n : Int) (shl .i64 (c : Int) (wrap64 (7 * (i : Int)))) = ((n + c * 2 ^ (7 * i) : Nat) : Int) := by
  have e : wrap64 (7 * (i : Int)) = ((7 * i : Nat) : Int) := by unfold wrap64; omega
  have hp : 2 ^ (7 * i) ≤ 2 ^ 49 := Nat.pow_le_pow_right (by omega) (by omega)
  have hcp : c * 2 ^ (7 * i) ≤ 127 * 2 ^ 49 := Nat.mul_le_mul (by omega) hp
  have h2 : shl .i64 (c : Int) (wrap64 (7 * (i : Int))) = ((c * 2 ^ (7 * i) : Nat) : Int) := by
    unfold shl
    rw [e, Int.toNat_natCast, Nat.min_eq_left (by show 7 * i ≤ 64; omega)]
    have e2 : (c : Int) * 2 ^ (7 * i) = ((c * 2 ^ (7 * i) : Nat) : Int) := by simp
    rw [e2]
    exact wraps_i64 _ (by omega) (by omega)
  rw [h2, bits_or_comm _ _ (by omega) (by omega), bits_join .i64 63 (by decide) wraps_i64 (7 * i) _ _ (by omega) ?_ (by omega) (by omega) (by exact_mod_cast hn) (by omega)]
  · omega
  · have : ((c * 2 ^ (7 * i) : Nat) : Int) = (c : Int) * 2 ^ (7 * i) := by simp
    rw [this]
    exact Int.mul_emod_left _ _
theorem bt_B (l : List UInt8) (i : Nat) : bt (B l) (i : Int) = ((l.getD i 0).toNat : Int) := by
  unfold bt
  rw [Int.toNat_natCast]
  split
  · rename_i h
    have h' : i < l.length := by rw [B_size] at h; exact h
    have e : (B l)[i]'h = l[i] := by show (B l).data[i] = _; simp [B]
    rw [e, List.getD_eq_getElem?_getD, List.getElem?_eq_getElem h']; rfl
  · rename_i h
    have h' : l.length ≤ i := by rw [B_size] at h; omega
    rw [List.getD_eq_getElem?_getD, List.getElem?_eq_none h']; rfl
def nb (l : List UInt8) : List Int := l.map fun c => (c.toNat : Int)
theorem nb_append (a b : List UInt8) : nb (a ++ b) = nb a ++ nb b := by simp [nb]
theorem strOfNums_nb (l : List UInt8) : strOfNums (nb l) = B l := by
  unfold strOfNums B nb
  rw [List.map_map]
  congr 2
  have : ((fun n : Int => UInt8.ofNat n.toNat) ∘ fun c : UInt8 => (c.toNat : Int)) = id := by
    funext c; simp
  rw [this, List.map_id]
theorem nb_one (n : Nat) (h : n < 128) : nb [UInt8.ofNat n] = [(n : Int) % 256] := by
  simp only [nb, List.map_cons, List.map_nil]
  rw [u8_toNat n (by omega), Int.emod_eq_of_lt (by omega) (by omega)]
theorem number_loop (j : Nat) : ∀ (n k : Nat) (acc : List UInt8), n < 128 ^ (j + 1) → j < k → acc.length + j ≤ 1000 → pack_Number.l0 k (n : Int) (nb acc) = some (B (acc ++ enc n)) := by
  induction j with
  | zero =>
    intro n k acc hn hk ha
    obtain ⟨k, rfl⟩ : ∃ m, k = m + 1 := ⟨k - 1, by omega⟩
    simp only [pack_Number.l0]
    have hl : (nb acc).length = acc.length := by simp [nb]
    rw [if_neg (by omega), if_pos (by omega), enc_lt (by omega)]
    have e : nb acc ++ [(n : Int) % 256] = nb (acc ++ [UInt8.ofNat n]) := by
      rw [nb_append, nb_one n (by omega)]
    rw [e, strOfNums_nb]
  | succ j ih =>
    intro n k acc hn hk ha
    obtain ⟨k, rfl⟩ : ∃ m, k = m + 1 := ⟨k - 1, by omega⟩
    have hl : (nb acc).length = acc.length := by simp [nb]
    by_cases h : n < 128
    · exact (by
        simp only [pack_Number.l0]
        rw [if_neg (by omega), if_pos (by omega), enc_lt (by omega)]
        have e : nb acc ++ [(n : Int) % 256] = nb (acc ++ [UInt8.ofNat n]) := by
          rw [nb_append, nb_one n (by omega)]
        rw [e, strOfNums_nb])
    · simp only [pack_Number.l0]
      rw [if_pos (by omega), if_pos (by omega), or128']
      have e : nb acc ++ [((128 + n % 128 : Nat) : Int)] = nb (acc ++ [UInt8.ofNat (128 + n % 128)]) := by
        rw [nb_append]
        congr 1
        simp only [nb, List.map_cons, List.map_nil]
        rw [u8_toNat _ (by omega)]
      have e2 : (n : Int) / 128 = ((n / 128 : Nat) : Int) := by omega
      rw [e, e2, ih (n / 128) k _ ?_ (by omega) (by rw [List.length_append, List.length_singleton]; omega), enc_ge (n := n) (by omega), List.append_assoc, List.singleton_append]
      · rw [Nat.pow_succ] at hn
        exact Nat.div_lt_of_lt_mul (by omega)
theorem number_f (n k : Nat) (h : n < 2 ^ 56) (hk : 20 ≤ k) : pack_Number.f k (n : Int) = some (B (enc n)) := by
  unfold pack_Number.f
  obtain ⟨k, rfl⟩ : ∃ m, k = m + 1 := ⟨k - 1, by omega⟩
  have e : decide ((n : Int) > 72057594037927935) = false := by simp; omega
  rw [if_neg (by omega), e]
  simp only [pack_Number.j0]
  rw [if_neg (by decide)]
  exact number_loop 7 n k [] (by simpa using h) (by omega) (by simp)
theorem text_f (s : List UInt8) (k : Nat) (h : s.length ≤ 140737488355328) (hk : 20 ≤ k) : pack_Text.f k (B s) = some (B (txt s)) := by
  unfold pack_Text.f
  rw [B_size, number_f s.length k (by omega) hk]
  simp only [Option.bind_some]
  have := enc_len8 (m := s.length) (by omega)
  rw [if_pos (by rw [B_size]; omega), B_append]
  rfl
theorem wrap7 (i : Nat) (hi : i ≤ 7) : wrap64 (7 * (i : Int)) = ((7 * i : Nat) : Int) := by unfold wrap64; omega
theorem wrap_succ (i : Nat) (hi : i ≤ 140737488355328) : wrap64 ((i : Int) + 1) = ((i + 1 : Nat) : Int) := by unfold wrap64; omega
theorem wrap_small (i : Nat) (hi : i ≤ 140737488355328) : wrap64 (i : Int) = (i : Int) := by unfold wrap64; omega
theorem rnum_end (l : List UInt8) (_hl : l.length ≤ 140737488355328) (i n c : Nat) (hi : i ≤ 7) (hil : i < l.length) (hn : n < 2 ^ (7 * i)) (hc : c < 128) :
    (if 0 ≤ wrap64 ((i : Int) + 1) then (if wrap64 ((i : Int) + 1) ≤ ((B l).size : Int) then (if 0 ≤ wrap64 (7 * (i : Int)) then (some (Go.bits .or .i64 (n : Int) (shl .i64 (wrap64 (c : Int)) (wrap64 (7 * (i : Int)))), (B l).extract (wrap64 ((i : Int) + 1)).toNat (B l).size, (0 : Int))) else none) else none) else none) = some (((n + c * 2 ^ (7 * i) : Nat) : Int), B (l.drop (i + 1)), (0 : Int)) := by
  rw [wrap_small c (by omega), or_add n c i hn hc hi, wrap_succ i (by omega), if_pos (by omega), if_pos (by rw [B_size]; omega), if_pos (by rw [wrap7 i hi]; omega), Int.toNat_natCast, B_size, B_extract, List.take_of_length_le (by rw [List.length_drop]; omega)]
theorem rnum_loop (l : List UInt8) (hl : l.length ≤ 140737488355328) (d : Nat) : ∀ (k i n : Nat), 8 - i = d → i ≤ 7 → i ≤ l.length → n < 2 ^ (7 * i) → d < k →
    pack_Reader_Number.l0 k (n : Int) (l.length : Int) (i : Int) (B l) 0 = some (((tk (l.drop i) i n).1 : Int), B (tk (l.drop i) i n).2.1, (tk (l.drop i) i n).2.2) := by
  induction d with
  | zero => intro k i n hd hi; omega
  | succ d ih =>
    intro k i n hd hi hil hn hk
    obtain ⟨k, rfl⟩ : ∃ m, k = m + 1 := ⟨k - 1, by omega⟩
    simp only [pack_Reader_Number.l0]
    by_cases h1 : i < l.length
    · rw [if_pos (by omega), if_pos (by omega), if_pos (by rw [B_size]; omega), bt_B]
      have hc : l.drop i = l.getD i 0 :: l.drop (i + 1) := by
        rw [List.drop_eq_getElem_cons h1, List.getD_eq_getElem?_getD, List.getElem?_eq_getElem h1]; rfl
      rw [hc]
      generalize l.getD i 0 = c
      have hc8 := c.toNat_lt
      have e7 : wrap64 (7 * (i : Int)) = ((7 * i : Nat) : Int) := by unfold wrap64; omega
      have e1 : wrap64 ((i : Int) + 1) = ((i + 1 : Nat) : Int) := by unfold wrap64; omega
      by_cases h128 : 128 ≤ c.toNat
      · rw [if_pos (by omega)]
        by_cases h7 : i = 7
        · rw [if_pos (by omega)]
          have : tk (c :: l.drop (i + 1)) i n = (0, [], 4) := by rw [tk, if_pos h128, if_pos h7]
          rw [this]
          rfl
        · rw [if_neg (by omega), if_pos (by rw [e7]; omega)]
          have e3 : ((c.toNat : Int) - 128) % 256 = ((c.toNat - 128 : Nat) : Int) := by omega
          rw [e3, or_add n (c.toNat - 128) i hn (by omega) hi, e1]
          have e4 : tk (c :: l.drop (i + 1)) i n = tk (l.drop (i + 1)) (i + 1) (n + (c.toNat - 128) * 2 ^ (7 * i)) := by rw [tk, if_pos h128, if_neg h7]
          rw [e4]
          refine ih k (i + 1) _ (by omega) (by omega) (by omega) ?_ (by omega)
          rw [pow7 i]
          have : (c.toNat - 128) * 2 ^ (7 * i) ≤ 127 * 2 ^ (7 * i) := Nat.mul_le_mul_right _ (by omega)
          omega
      · rw [if_neg (by omega)]
        have hsh : pack_Reader_wrong.f (B l) 0 4 = some (⟨#[]⟩, 4) := rfl
        have hend := rnum_end l hl i n c.toNat hi h1 hn (by omega)
        by_cases h0 : c.toNat = 0
        · rw [if_pos (by omega)]
          by_cases hi0 : 0 < i
          · rw [if_pos (by omega)]
            have : tk (c :: l.drop (i + 1)) i n = (0, [], 4) := by rw [tk, if_neg h128, if_pos ⟨h0, hi0⟩]
            rw [this]
            rfl
          · rw [if_neg (by omega), hend]
            have : tk (c :: l.drop (i + 1)) i n = (n + c.toNat * 2 ^ (7 * i), l.drop (i + 1), 0) := by rw [tk, if_neg h128, if_neg (by omega)]
            rw [this]
        · rw [if_neg (by omega), hend]
          have : tk (c :: l.drop (i + 1)) i n = (n + c.toNat * 2 ^ (7 * i), l.drop (i + 1), 0) := by rw [tk, if_neg h128, if_neg (by omega)]
          rw [this]
    · rw [if_neg (by omega), List.drop_eq_nil_of_le (by omega)]
      rfl
theorem rnum_f (l : List UInt8) (k : Nat) (hl : l.length ≤ 140737488355328) (hk : 20 ≤ k) : pack_Reader_Number.f k (B l) 0 = some (((tk l 0 0).1 : Int), B (tk l 0 0).2.1, (tk l 0 0).2.2) := by
  unfold pack_Reader_Number.f pack_Reader_works.f
  simp only [Option.bind_some]
  rw [if_pos (by rfl), B_size]
  exact rnum_loop l hl 8 k 0 0 rfl (by omega) (by omega) (by simp) (by omega)
theorem rnum_err (s : ByteArray) (e : Int) (k : Nat) (he : e ≠ 0) : pack_Reader_Number.f k s e = some (0, s, e) := by
  unfold pack_Reader_Number.f pack_Reader_works.f
  simp only [Option.bind_some]
  rw [if_neg (by simpa using he)]
theorem rtext_f (l : List UInt8) (k : Nat) (hl : l.length ≤ 140737488355328) (hk : 21 ≤ k) : pack_Reader_Text.f k (B l) 0 = some (B (tkT l).1, B (tkT l).2.1, (tkT l).2.2) := by
  obtain ⟨k, rfl⟩ : ∃ m, k = m + 1 := ⟨k - 1, by omega⟩
  have hle := tk_le l 0 0
  have herr := tk_err l 0 0
  unfold pack_Reader_Text.f
  rw [rnum_f l _ hl (by omega)]
  unfold tkT
  generalize tk l 0 0 = t at hle herr ⊢
  obtain ⟨n, r, e⟩ := t
  simp only [Option.bind_some, pack_Reader_works.f] at *
  by_cases h0 : e = 0
  · subst h0
    rw [if_pos (by rfl), if_neg (by simp)]
    rw [B_size]
    by_cases h1 : r.length < n
    · have hd : decide ((n : Int) > (r.length : Int)) = true := by simp; omega
      rw [hd, if_pos h1]
      simp only [pack_Reader_Text.j0, pack_Reader_wrong.f, pack_Reader_works.f, Option.bind_some]
      rw [if_pos trivial, if_neg (by decide)]
      rfl
    · have hd : decide ((n : Int) > (r.length : Int)) = false := by simp; omega
      rw [hd, if_neg h1]
      simp only [pack_Reader_Text.j0, pack_Reader_wrong.f, pack_Reader_works.f, Option.bind_some]
      rw [if_neg (by decide), if_pos (by decide), if_pos (by omega), if_pos (by rw [B_size]; omega), Int.toNat_natCast, B_size, B_extract, B_extract, List.drop_zero, Nat.sub_zero, List.take_of_length_le (l := r.drop n) (by rw [List.length_drop]; omega)]
  · rw [if_neg (by simpa using h0), if_pos h0]
    simp only [pack_Reader_Text.j0, pack_Reader_wrong.f, pack_Reader_works.f, Option.bind_some]
    rw [if_neg (by decide), if_neg (by simpa using h0)]
    rcases herr with h | h | h
    · exact absurd h h0
    · simp only [Prod.mk.injEq] at h
      obtain ⟨_, rfl, rfl⟩ := h
      rfl
    · simp only [Prod.mk.injEq] at h
      obtain ⟨_, rfl, rfl⟩ := h
      rfl
theorem rtext_err (s : ByteArray) (e : Int) (k : Nat) (he : e ≠ 0) (hk : 1 ≤ k) : pack_Reader_Text.f k s e = some (⟨#[]⟩, s, e) := by
  obtain ⟨k, rfl⟩ : ∃ m, k = m + 1 := ⟨k - 1, by omega⟩
  unfold pack_Reader_Text.f
  rw [rnum_err s e _ he]
  simp only [Option.bind_some, pack_Reader_works.f]
  rw [if_neg (by simpa using he)]
  simp only [pack_Reader_Text.j0, pack_Reader_wrong.f, pack_Reader_works.f, Option.bind_some]
  rw [if_neg (by decide), if_neg (by simpa using he)]
end Go.Proofs.YtpgfafpjfdbjmaaDoor
end
section
namespace Go.Proofs.YtpgfafpjfdbjmaaDoor
open Go.RowKit Go.Proofs.YtpgfafpjfdbjmaaDoorW.PrintWords
def Blk (w : World) (g : Nat) (c : Array Value) (T : TypeId) : Prop := w.heap[g]? = some (.cells c T (0, 0))
theorem Blk.lt {w : World} {g : Nat} {c : Array Value} {T : TypeId} (h : Blk w g c T) : g < w.heap.size := (Array.getElem?_eq_some_iff.1 h).1
theorem Blk.cell {w : World} {g : Nat} {c : Array Value} {T : TypeId} (h : Blk w g c T) {i : Nat} {v : Value} (hi : c[i]? = some v) : w.cell? ⟨g, i, none⟩ = some v := by rw [Lib.cell_of_heap h]; exact hi
theorem Blk.free {w : World} {g : Nat} {c : Array Value} {T : TypeId} (h : Blk w g c T) (i : Nat) : w.frozen? ⟨g, i, none⟩ = false := Lib.frozen_of_heap h i
theorem Blk.set {w : World} {g : Nat} {c : Array Value} {T : TypeId} (h : Blk w g c T) (i : Nat) (v : Value) : Blk (w.setCell ⟨g, i, none⟩ v) g (c.setIfInBounds i v) T := by
  have : w.heap[g]? = _ := h
  simp [Blk, World.setCell, Array.getElem?_modify, this]
theorem Blk.other {w : World} {g g' : Nat} {c : Array Value} {T : TypeId} (h : Blk w g c T) (hne : g ≠ g') (i : Nat) (v : Value) : Blk (w.setCell ⟨g', i, none⟩ v) g c T := (Below.heap_setCell _ _ _ _ (fun e => hne e)).trans h
theorem Blk.keep {w w' : World} {g : Nat} {c : Array Value} {T : TypeId} (h : Blk w g c T) (hb : Below w.heap.size w w') : Blk w' g c T := (hb.block g h.lt).trans h
theorem Blk.alloc {w : World} {g : Nat} {c : Array Value} {T : TypeId} (h : Blk w g c T) (o : Obj) : Blk (w.alloc o) g c T := (Lib.alloc_old w o g h.lt).trans h
theorem Blk.new (w : World) (c : Array Value) (T : TypeId) : Blk (w.alloc (.cells c T)) w.heap.size c T := heap_alloc_new w _
end Go.Proofs.YtpgfafpjfdbjmaaDoor
end
section
namespace Go.Proofs.YtpgfafpjfdbjmaaDoor
open Go.RowKit Q Go.Proofs.YtpgfafpjfdbjmaaDoorW.PrintWords Go.Proofs.YtpgfafpjfdbjmaaDoorW.PrintLast Go.Proofs.YtpgfafpjfdbjmaaDoorW.PrintMore
def plainB (c : UInt8) : Bool := decide (33 ≤ c.toNat) && decide (c.toNat ≤ 126)
theorem plain_not (n : Nat) : (decide (33 ≤ n) && decide (n ≤ 126)) = !(decide ((n : Int) < 33) || decide (126 < (n : Int))) := by
  rw [Bool.eq_iff_iff]
  simp
  omega
theorem decode_big (s : ByteArray) (i : Nat) (h : 128 ≤ (s.get! i).toNat) : 126 < (Utf8.decode s i).1 := by
  unfold Utf8.decode
  simp only [Nat.add_zero]
  rw [if_neg (by omega)]
  unfold Utf8.runeError
  split
  · split
    · rename_i h1; simp only; omega
    · decide
  · split
    · split
      · rename_i h1; simp only; simp at h1; omega
      · decide
    · split
      · split
        · rename_i h1; simp only; simp at h1; omega
        · decide
      · decide
theorem decode_small (s : ByteArray) (i : Nat) (h : (s.get! i).toNat < 128) : Utf8.decode s i = ((s.get! i).toNat, 1) := by
  unfold Utf8.decode
  simp only [Nat.add_zero]
  rw [if_pos h]
theorem get_B (l : List UInt8) (i : Nat) (h : i < l.length) : (B l).get! i = l[i] := by
  simp [ByteArray.get!, B, h]
set_option maxRecDepth 100000 in
theorem clos_calls (r : Int) (w : World) : Calls Tryd.prog 32 #[.int .i32 r] w fun e w' => e = .returned (.bool (decide (r < 33) || decide (126 < r))) ∧ Below w.heap.size w w' := by
  by_cases h1 : r < 33
  · go_enter Tryd.func32, Tryd.ntmps32
    go_wp2_with fail
    go_ret
    exact ⟨by simp [h1], Below.refl _ _⟩
  · by_cases h2 : 126 < r
    · go_enter Tryd.func32, Tryd.ntmps32
      go_wp2_with fail
      go_ret
      exact ⟨by simp, Below.refl _ _⟩
    · go_enter Tryd.func32, Tryd.ntmps32
      go_wp2_with fail
      go_ret
      exact ⟨by simp [h1, h2], Below.refl _ _⟩
set_option maxHeartbeats 2000000 in
set_option maxRecDepth 100000 in
theorem idx_calls (l : List UInt8) (w : World) : Calls Tryd.prog 51 #[.string (B l), .func (.func 32) #[] #[], .bool true] w fun e w' => ∃ r : Int, e = .returned (.int .i64 r) ∧ (decide (r < 0) = l.all plainB) ∧ Below w.heap.size w w' := by
  go_enter Tryd.func51, Tryd.ntmps51
  go_wp2_with fail
  go_loopg [] l.length (fun gf wx => ∃ pos : Nat, wx.heap[w.heap.size]? = some (.stringIter (B l) pos) ∧ Below w.heap.size w wx ∧ (l.take pos).all plainB = true ∧ pos + gf = l.length)
  case atStart => exact ⟨0, World.iter_heap w (B l) 0, (Below.refl _ w).alloc (Nat.le_refl _) _, rfl, by omega⟩
  case round =>
    obtain ⟨pos, hit, hbw, hall, hfu⟩ := hrel
    by_cases hps : pos < l.length
    · obtain ⟨g', rfl⟩ : ∃ g', gk = g' + 1 := ⟨gk - 1, by omega⟩
      have hps' : pos < (B l).size := by rw [B_size]; exact hps
      have hnx : ∀ ty, (Instr.next (.pointer (some ⟨w.heap.size, 0, none⟩)) true ty).run Tryd.prog wr = _ := fun ty => Lib.run_next_any_at wr w.heap.size (B l) pos ty hit hps'
      have hg := get_B l pos hps
      have htk : l.take (pos + 1) = l.take pos ++ [l[pos]] := by rw [List.take_add_one, List.getElem?_eq_getElem hps]; rfl
      have hdr : l = l.take pos ++ l[pos] :: l.drop (pos + 1) := by
        conv => lhs; rw [← List.take_append_drop pos l, List.drop_eq_getElem_cons hps]
        rfl
      by_cases hbig : 128 ≤ l[pos].toNat
      · have hd := decode_big (B l) pos (by rw [hg]; exact hbig)
        have hno : l.all plainB = false := by
          rw [hdr, List.all_append, List.all_cons]
          have : plainB l[pos] = false := by simp [plainB]; omega
          simp [this]
        obtain ⟨R, hR⟩ : ∃ R, (Utf8.decode (B l) pos).1 = R := ⟨_, rfl⟩
        obtain ⟨K, hK⟩ : ∃ K, (Utf8.decode (B l) pos).2 = K := ⟨_, rfl⟩
        rw [hR, hK] at hnx
        rw [hR] at hd
        have hbw2 := Lib.below_iterAt hbw (k := w.heap.size) (Nat.le_refl _) (B l) (pos + K)
        obtain ⟨W, hWd⟩ : ∃ W, wr.iterAt w.heap.size (B l) (pos + K) = W := ⟨_, rfl⟩
        rw [hWd] at hnx hbw2
        have cS := clos_calls (R : Int) W
        rw [show (decide ((R : Int) < 33) || decide (126 < (R : Int))) = true from by simp; omega] at cS
        clear hg htk hdr hit hbw hall hR hK hWd hd
        go_wp2_with fail
        refine cS.mono ?_
        rintro e W' ⟨rfl, b1⟩
        go_wp2_with fail
        go_ret
        exact ⟨pos, rfl, by rw [hno]; simp, below2 hbw2 hbw2.size b1⟩
      · have hd := decode_small (B l) pos (by rw [hg]; omega)
        rw [hg] at hd
        rw [hd] at hnx
        have hit2 := Lib.iterAt_heap wr w.heap.size (B l) pos (pos + 1) hit
        have hbw2 := Lib.below_iterAt hbw (k := w.heap.size) (Nat.le_refl _) (B l) (pos + 1)
        obtain ⟨W, hWd⟩ : ∃ W, wr.iterAt w.heap.size (B l) (pos + 1) = W := ⟨_, rfl⟩
        rw [hWd] at hnx hbw2 hit2
        have hp : plainB l[pos] = !(decide ((l[pos].toNat : Int) < 33) || decide (126 < (l[pos].toNat : Int))) := by
          exact plain_not _
        have cS := clos_calls (l[pos].toNat : Int) W
        generalize (decide ((l[pos].toNat : Int) < 33) || decide (126 < (l[pos].toNat : Int))) = q at cS hp
        cases q
        · have hall2 : (l.take (pos + 1)).all plainB = true := by rw [htk, List.all_append, hall]; simp [hp]
          generalize l[pos].toNat = R at hnx cS
          clear hg htk hdr hit hbw hall hWd hd hp
          go_wp2_with fail
          refine cS.mono ?_
          rintro e W' ⟨rfl, b1⟩
          go_wp2_with fail
          go_roundg g'
          case measure => omega
          case rel => exact ⟨pos + 1, (b1.block _ (Array.getElem?_eq_some_iff.1 hit2).1).trans hit2, below2 hbw2 hbw2.size b1, hall2, by omega⟩
        · have hno : l.all plainB = false := by
            rw [hdr, List.all_append, List.all_cons]
            simp [hp]
          generalize l[pos].toNat = R at hnx cS
          clear hg htk hdr hit hbw hall hWd hd hp
          go_wp2_with fail
          refine cS.mono ?_
          rintro e W' ⟨rfl, b1⟩
          go_wp2_with fail
          go_ret
          exact ⟨pos, rfl, by rw [hno]; simp, below2 hbw2 hbw2.size b1⟩
    · have hnx : ∀ ty, (Instr.next (.pointer (some ⟨w.heap.size, 0, none⟩)) true ty).run Tryd.prog wr = _ := fun ty => Lib.run_next_end_at wr w.heap.size (B l) pos ty hit (by rw [B_size]; exact hps)
      have hall2 : l.all plainB = true := by rw [← hall, List.take_of_length_le (by omega)]
      clear hall
      go_wp2_with fail
      go_ret
      exact ⟨-1, rfl, by rw [hall2]; rfl, hbw⟩
theorem idxf_calls (l : List UInt8) (w : World) : Calls Tryd.prog 31 #[.string (B l), .func (.func 32) #[] #[]] w fun e w' => ∃ r : Int, e = .returned (.int .i64 r) ∧ (decide (r < 0) = l.all plainB) ∧ Below w.heap.size w w' := by
  go_enter Tryd.func31, Tryd.ntmps31
  go_wp2_with fail
  refine (idx_calls l _).mono ?_
  rintro e w' ⟨r, rfl, hr, hb⟩
  go_wp2_with fail
  go_ret
  exact ⟨r, rfl, hr, hb⟩
def chkN (k v : List UInt8) : Int := if k = [] ∨ 32 < k.length ∨ k.all plainB = false then 11 else if 384 < (txt k).length + (txt v).length + 32 then 12 else 0
theorem txt_le (s : List UInt8) (h : s.length ≤ 140737488355328) : (txt s).length ≤ s.length + 8 := by
  unfold txt
  rw [List.length_append]
  have := enc_len8 (m := s.length) (by omega)
  omega
theorem text_L (s : List UInt8) (w : World) (h : s.length ≤ 140737488355328) : Calls Tryd.prog 28 #[.string (B s)] w fun e w' => e = .returned (.string (B (txt s))) ∧ Below w.heap.size w w' :=
  pack_Text.calls 20 _ _ w (text_f s 20 h (Nat.le_refl _))
theorem sum32 (a b : Nat) (ha : a ≤ 140737488355336) (hb : b ≤ 140737488355336) : wrap64 (wrap64 ((a : Int) + b) + 32) = ((a + b + 32 : Nat) : Int) := by
  unfold wrap64; omega
set_option maxHeartbeats 2000000 in
set_option maxRecDepth 100000 in
theorem nchk_calls (k v : List UInt8) (hv : v.length ≤ 140737488355328) (w : World) : Calls Tryd.prog 13 #[.agg #[.string (B k), .string (B v)]] w fun e w' => e = .returned (.int .i64 (chkN k v)) ∧ Below w.heap.size w w' := by
  have HB : Aside0 (Below w.heap.size w (w.alloc (.cells #[.string (B k), .string (B v)] 28))) := ⟨below_alloc (Below.refl _ _) _⟩
  have HH : Aside0 (Blk (w.alloc (.cells #[.string (B k), .string (B v)] 28)) w.heap.size #[.string (B k), .string (B v)] 28) := ⟨Blk.new _ _ _⟩
  have hu := Tryd.underlying28
  by_cases h0 : k = []
  · subst h0
    have HM : chkN [] v = 11 := by unfold chkN; rw [if_pos (.inl rfl)]
    rw [HM]
    have hb : (B []).toList = [] := B_toList []
    clear HM
    go_enter Tryd.func13, Tryd.ntmps13
    go_wp2_with fail
    refine (idxf_calls [] _).mono ?_
    rintro e w1 ⟨r, rfl, hr, b1⟩
    replace HH := Aside0.mk (HH.out.keep b1)
    replace HB := Aside0.mk (below2 HB.out HB.out.size b1)
    clear b1 hr
    have d0 := HH.out.cell (i := 0) (v := .string (B [])) rfl
    go_wp2_with fail
    go_ret
    exact ⟨rfl, HB.out⟩
  · have hb : ((B k).toList == []) = false := by rw [B_toList]; simpa using h0
    by_cases h1 : 32 < k.length
    · have HM : chkN k v = 11 := by unfold chkN; rw [if_pos (.inr (.inl h1))]
      rw [HM]
      have h1' : ((B k).size : Int) > 32 := by rw [B_size]; omega
      clear h0 HM h1
      go_enter Tryd.func13, Tryd.ntmps13
      go_wp2_with fail
      refine (idxf_calls k _).mono ?_
      rintro e w1 ⟨r, rfl, hr, b1⟩
      replace HH := Aside0.mk (HH.out.keep b1)
      replace HB := Aside0.mk (below2 HB.out HB.out.size b1)
      clear b1 hr
      have d0 := HH.out.cell (i := 0) (v := .string (B k)) rfl
      go_wp2_with fail
      go_ret
      exact ⟨rfl, HB.out⟩
    · have h1' : ¬ ((B k).size : Int) > 32 := by rw [B_size]; omega
      cases hq : k.all plainB with
      | false =>
        have HM : chkN k v = 11 := by unfold chkN; rw [if_pos (.inr (.inr hq))]
        rw [HM]
        clear h0 HM h1
        go_enter Tryd.func13, Tryd.ntmps13
        go_wp2_with fail
        refine (idxf_calls k _).mono ?_
        rintro e w1 ⟨r, rfl, hr, b1⟩
        replace HH := Aside0.mk (HH.out.keep b1)
        replace HB := Aside0.mk (below2 HB.out HB.out.size b1)
        have hr3 : decide (r < 0) = false := by rw [hq] at hr; exact hr
        have hz1 : decide (32 < ((B k).size : Int)) = false := decide_eq_false (by omega)
        clear b1 hr
        have d0 := HH.out.cell (i := 0) (v := .string (B k)) rfl
        go_wp2_with fail
        go_ret
        exact ⟨rfl, HB.out⟩
      | true =>
        have hkl : k.length ≤ 32 := by omega
        have HM : chkN k v = if 384 < (txt k).length + (txt v).length + 32 then 12 else 0 := by
          unfold chkN
          rw [if_neg]
          rintro (h | h | h)
          · exact h0 h
          · exact h1 h
          · rw [hq] at h; cases h
        obtain ⟨z, hz⟩ : ∃ z : Int, chkN k v = z := ⟨_, rfl⟩
        rw [hz]
        rw [HM] at hz
        have HZ := Lib.hid hz
        clear hz
        have hs := sum32 (txt k).length (txt v).length (by have := txt_le k (by omega); omega) (by have := txt_le v hv; omega)
        have HK := Lib.hid hkl
        have HVV := Lib.hid hv
        clear h0 HM h1 hkl hv
        go_enter Tryd.func13, Tryd.ntmps13
        go_wp2_with fail
        refine (idxf_calls k _).mono ?_
        rintro e w1 ⟨r, rfl, hr, b1⟩
        replace HH := Aside0.mk (HH.out.keep b1)
        replace HB := Aside0.mk (below2 HB.out HB.out.size b1)
        have hr2 : r < 0 := by rw [hq] at hr; simpa using hr
        clear b1 hr hq
        have hr3 : decide (r < 0) = true := decide_eq_true hr2
        have hz1 : decide (32 < ((B k).size : Int)) = false := decide_eq_false (by omega)
        have d0 := HH.out.cell (i := 0) (v := .string (B k)) rfl
        have d1 := HH.out.cell (i := 1) (v := .string (B v)) rfl
        have hH := HH.out.lt
        go_wp2_with fail
        refine region_below_tail 11 (by kernel_rfl) (by kernel_rfl) ?_
        simp only [List.take_succ_cons, List.take_zero, List.drop_succ_cons, List.drop_zero]
        repeat (first | go_big_quiet_step (fail) | (refine BigFrame.wpQuiet_want (by rfl) (fun K hK => ?_); go_big_quiet_op; refine ⟨_, fun _ _ => rfl, hK _ ?_⟩; clear hK K) | (refine q_ld 9 _ _ _ _ rfl rfl rfl rfl (ld_str _ _) (by assumption) (by assumption) ?_; simp only [Act.put, List.setIfInBounds_toArray, List.set_cons_zero, List.set_cons_succ]) | (refine q_go (f := 28) Tryd.func28 (by kernel_rfl) rfl #[.string (B k)] _ _ rfl rfl rfl (by simp only [List.map_toArray, List.map_cons, List.map_nil]; rfl) (fun w' _ => text_L k w' (Nat.le_trans HK.out (by decide))) ?_; simp only [Act.put, List.setIfInBounds_toArray, List.set_cons_zero, List.set_cons_succ]) | (refine q_go (f := 28) Tryd.func28 (by kernel_rfl) rfl #[.string (B v)] _ _ rfl rfl rfl (by simp only [List.map_toArray, List.map_cons, List.map_nil]; rfl) (fun w' _ => text_L v w' HVV.out) ?_; simp only [Act.put, List.setIfInBounds_toArray, List.set_cons_zero, List.set_cons_succ]))
        refine wpQuiet_nil ?_
        intro wn hw'
        replace HB := Aside0.mk (below2 HB.out HB.out.size hw')
        by_cases hc : 384 < (txt k).length + (txt v).length + 32
        · have hc2 : 384 < wrap64 (wrap64 (((B (txt k)).size : Int) + ((B (txt v)).size : Int)) + 32) := by rw [B_size, B_size, hs]; omega
          have hz2 := HZ.out
          rw [if_pos hc] at hz2
          subst hz2
          clear HZ
          go_wp2_with fail
          go_ret
          exact ⟨rfl, HB.out⟩
        · have hc2 : ¬ 384 < wrap64 (wrap64 (((B (txt k)).size : Int) + ((B (txt v)).size : Int)) + 32) := by rw [B_size, B_size, hs]; omega
          have hz2 := HZ.out
          rw [if_neg hc] at hz2
          subst hz2
          clear HZ
          go_wp2_with fail
          go_ret
          exact ⟨rfl, HB.out⟩
def needle_Check.f (a0_0 a0_1 : ByteArray) : Option Int := if a0_1.size ≤ 140737488355328 then some (chkN a0_0.data.toList a0_1.data.toList) else none
theorem needle_Check.calls (a0_0 a0_1 : ByteArray) (r : Int) (w : World) (h : needle_Check.f a0_0 a0_1 = some r) :
    Calls Tryd.prog 13 #[.agg #[.string a0_0, .string a0_1]] w fun e w' => e = .returned (.int .i64 r) ∧ Below w.heap.size w w' := by
  unfold needle_Check.f at h
  split at h
  · rename_i hs
    have e := Option.some.inj h
    have := nchk_calls a0_0.data.toList a0_1.data.toList (by rw [size_data]; exact hs) w
    rw [e, B_eta, B_eta] at this
    exact this
  · cases h
end Go.Proofs.YtpgfafpjfdbjmaaDoor
end
