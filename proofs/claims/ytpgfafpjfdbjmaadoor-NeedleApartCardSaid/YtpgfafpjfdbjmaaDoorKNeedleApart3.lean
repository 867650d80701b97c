/- Lemmas for the law NeedleApart, merged out of several texts and cut down to what it names, by a program of this session (some of the first ones are of the words that print.sh wrote for this claim). -/
import Derived.Laws.BitsLemmas
import Derived.Test.YtpgfafpjfdbjmaaDoorProg
import Derived.Below
import Derived.WalkKit
import Derived.Lib.Builder
import Derived.Laws.Tables
import Derived.Lib.OthersKept
import Derived.Lib.Hide
import Derived.Deep.LoopGhost
import Derived.WalkSpells
import Derived.WalkLawsBesides
import Derived.RangeFuncNested
import Derived.OrdersIn
import Derived.RangeFuncCalls
import Derived.RangeFuncLeaves
import Derived.Shelf.Abstract
import Derived.OwnWalkIn
import Derived.TacticsInMore
import Derived.LoopNIn
import Derived.LoopIn
import Derived.Laws.Rows
import Derived.Test.YtpgfafpjfdbjmaaDoorKNeedleApart1
import Derived.Test.YtpgfafpjfdbjmaaDoorKNeedleApart2
set_option linter.unusedVariables false
set_option linter.unusedSimpArgs false
section
namespace Go.Proofs.YtpgfafpjfdbjmaaDoor
open Go.RowKit Q Go.Proofs.YtpgfafpjfdbjmaaDoorW.PrintWords Go.Proofs.YtpgfafpjfdbjmaaDoorW.PrintLast Go.Proofs.YtpgfafpjfdbjmaaDoorW.PrintMore
theorem row_len {B : Nat} {E : TypeId} {v : Value} {l : List UInt8} {w : World} (h : RowB B E v l w) {L : Nat} (hL : l.length = L + 1) : ∃ g cap, v = .slice (some ⟨g, 0, none⟩) (L + 1) cap := by
  obtain ⟨g, cap, hv, _⟩ := h.ne (by intro h0; rw [h0] at hL; cases hL)
  exact ⟨g, cap, by rw [hv, hL]⟩
theorem RowB.past {B : Nat} {E : TypeId} {v : Value} {l : List UInt8} {w : World} (h : RowB B E v l w) {g : Nat} (hne : ∀ k, v.ownBlock = some k → k ≠ g) (c : Array Value) : RowB B E v l (w.setRow g c) :=
  h.keep (fun k hk => setRow_other w g k c (hne k hk))
theorem conv_run (ev : Operand → Value) (x : Operand) (g off cap : Nat) (l : List UInt8) (s : ByteArray) (W : World) (hs : (⟨l.toArray⟩ : ByteArray) = s) (hc : ∀ j x, l[j]? = some x → W.cell? ⟨g, off + j, none⟩ = some (.int .u8 (x.toNat : Int))) {n : Nat} (hn : l.length = n) (hx : ev x = .slice (some ⟨g, off, none⟩) n cap) {o : Oper} (ho : o.op = .convert 59 9 x) :
    (execOp ev o).run Tryd.prog W = .ok (.value (.string s)) W := by
  subst hs hn
  unfold execOp
  simp only [ho, hx, Sem.run_bind, Result.andThen_ok, run_string_bytes W 59 9 5 Tryd.underlying59 Tryd.underlying5 Tryd.underlying9 g off cap l hc, Sem.run_pure]
def be4 (x : Int) : List UInt8 := [UInt8.ofNat (x / 16777216 % 256).toNat, UInt8.ofNat (x / 65536 % 256).toNat, UInt8.ofNat (x / 256 % 256).toNat, UInt8.ofNat (x % 256).toNat]
def outk (l : List Int) : Nat → List UInt8
  | 0 => []
  | k + 1 => outk l k ++ be4 (l.getD k 0)
theorem outk_len (l : List Int) (k : Nat) : (outk l k).length = 4 * k := by
  induction k with
  | zero => rfl
  | succ k ih => rw [outk, List.length_append, ih]; simp [be4]; omega
theorem be_byte (x : Int) : ((UInt8.ofNat (x % 256).toNat).toNat : Int) = x % 256 := by
  rw [UInt8.toNat_ofNat', Nat.mod_eq_of_lt (by omega)]
  omega
set_option maxRecDepth 100000 in
theorem index_word (y : V8) (k : Nat) (hk : k < 8) (W : World) : (Instr.index 115 (.agg y.cells) (.int .i64 (k : Int))).run Tryd.prog W = .ok (.int .u32 (y.l.getD k 0)) W := by
  match k, hk with
  | 0, _ => rfl
  | 1, _ => rfl
  | 2, _ => rfl
  | 3, _ => rfl
  | 4, _ => rfl
  | 5, _ => rfl
  | 6, _ => rfl
  | 7, _ => rfl
def pz (m : Nat) : Nat := (120 - m % 64) % 64
def szb (n : Nat) : Nat → List UInt8
  | 0 => []
  | j + 1 => szb n j ++ [UInt8.ofNat (n * 8 / 2 ^ (8 * (7 - j)) % 256)]
theorem szb_len (n j : Nat) : (szb n j).length = j := by
  induction j with
  | zero => rfl
  | succ j ih => rw [szb, List.length_append, ih]; rfl
def fill0 (r : ByteArray) : List UInt8 := r.data.toList ++ [128]
def fill1 (r : ByteArray) : List UInt8 := fill0 r ++ List.replicate (pz (fill0 r).length) 0
def fill2 (r : ByteArray) (n : Nat) : List UInt8 := fill1 r ++ szb n 8
theorem fill2_64 (r : ByteArray) (n : Nat) : 64 * ((fill2 r n).length / 64) = (fill2 r n).length := by
  unfold fill2 fill1
  rw [List.length_append, List.length_append, szb_len, List.length_replicate]
  unfold pz
  omega
set_option maxRecDepth 100000 in
set_option maxHeartbeats 1000000 in
theorem dsum_calls (g : Nat) (x : V8) (r : ByteArray) (n : Nat) (w : World) (h : DSt w g x r n) (hr : r.size ≤ 64) (hn : n ≤ 140737488355328) :
    Calls Tryd.prog 50 #[.pointer (some ⟨g, 0, none⟩)] w fun e w' => e = .returned (.string ⟨(outk (fd x ⟨(fill2 r n).toArray⟩ ((fill2 r n).length / 64)).l 8).toArray⟩) ∧ Below w.heap.size w w' := by
  obtain ⟨i0, hi, hz0, hz1, hz2⟩ := info8
  have HD := Aside0.mk h
  have HG := Aside0.mk h.lt
  have c8 := h.c8
  clear h
  have hcv := fun (W : World) => Lib.run_convert_string_bytes (P := Tryd.prog) W 9 59 5 (r ++ ⟨#[128]⟩) Tryd.underlying9 Tryd.underlying59 Tryd.underlying5
  have hsz : (r ++ ⟨#[128]⟩ : ByteArray).size = r.size + 1 := by rw [ByteArray.size_append]; rfl
  have hR := RowB.bytes w 5 (r ++ ⟨#[128]⟩) (by rw [hsz]; unfold maxLen; omega)
  have hBel := RowB.bytesBelow w 5 (r ++ ⟨#[128]⟩)
  have e0 : (r ++ ⟨#[128]⟩ : ByteArray).data.toList = fill0 r := by
    show (ByteArray.append r ⟨#[128]⟩).data.toList = _
    simp [fill0, ByteArray.append_eq]
  rw [e0] at hR
  have hl0 : (fill0 r).length = r.size + 1 := by rw [← e0, Array.length_toList]; exact hsz
  have G1 := Aside0.mk hR
  have G2 := Aside0.mk hBel
  have G3 := Lib.hid hl0
  clear hR hBel hl0 e0
  go_enter Tryd.func50, Tryd.ntmps50
  go_wp2_with fail
  have G2 := G2.out
  have G1 := G1.out
  rw [hsz] at G1
  have HZ : pz (r.size + 1) < 64 := by unfold pz; omega
  generalize Lib.bytesWorld w 5 (r ++ ⟨#[128]⟩) = w1 at *
  generalize grownCap w (r.size + 1) 0 5 = cap1 at *
  have G1 := Aside0.mk G1
  have G2 := Aside0.mk G2
  clear hcv c8 hsz
  go_loopg [3] (pz (r.size + 1)) (fun m v wr => ∃ g1 cap j L : Nat, v = .slice (some ⟨g1, 0, none⟩) L cap ∧ L ≤ 200 ∧ Aside0 (j + m = pz (r.size + 1) ∧ L = r.size + 1 + j) ∧ Aside0 (RowB w.heap.size 5 (.slice (some ⟨g1, 0, none⟩) L cap) (fill0 r ++ List.replicate j 0) wr) ∧ Aside0 (Below w.heap.size w wr))
  case atStart => exact ⟨_, _, 0, _, rfl, by omega, ⟨by omega, by omega⟩, ⟨by rw [List.replicate_zero, List.append_nil]; exact G1.out⟩, G2⟩
  case round =>
    clear G1 G2
    obtain ⟨g1, cap, j, L, rfl, hL, HJ, G1, G2⟩ := hrel
    by_cases hm : gk = 0
    · have t1 : (L : Int) % 64 = 56 := by have := HJ.out; unfold pz at this; omega
      have t2 : ((L : Int) % 64 == 56) = true := by rw [t1]; rfl
      have t3 : ((L : Int) % 64 != 56) = false := by rw [t1]; rfl
      clear t1
      go_wp2_with fail
      have hj : j = pz (r.size + 1) ∧ L = r.size + 1 + pz (r.size + 1) := by have := HJ.out; omega
      obtain ⟨rfl, hLe⟩ := hj
      have G1 : Aside0 (RowB w.heap.size 5 (.slice (some ⟨g1, 0, none⟩) L cap) (fill1 r ++ szb n 0) wr) := ⟨by
        have := G1.out
        unfold fill1 szb
        rw [List.append_nil, G3.out]
        exact this⟩
      have hF1 : Hid ((fill1 r).length = L) := Lib.hid (by unfold fill1; rw [List.length_append, List.length_replicate, G3.out, hLe])
      clear HJ t2 t3 hLe hm
      go_loopg [3, 4] 8 (fun m v i wr => ∃ g1 cap j L' : Nat, ∃ q : Int, v = .slice (some ⟨g1, 0, none⟩) L' cap ∧ i = .int .i64 q ∧ L' ≤ 208 ∧ Aside0 (j + m = 8 ∧ L' = L + j ∧ q = (m : Int) - 1) ∧ Aside0 (RowB w.heap.size 5 (.slice (some ⟨g1, 0, none⟩) L' cap) (fill1 r ++ szb n j) wr) ∧ Aside0 (Below w.heap.size w wr))
      case atStart => exact ⟨_, _, 0, _, _, rfl, rfl, by omega, ⟨by omega, by omega, by omega⟩, G1, G2⟩
      case round =>
        clear G1 G2
        obtain ⟨g2, cap2, j, L', q, rfl, rfl, hL', HJ, G1, G2⟩ := hrel
        by_cases hm : gk = 0
        · obtain rfl : q = -1 := by have := HJ.out; omega
          have hz8 := zero8
          have hDw := HD.out.keep G2.out
          have HDw := Aside0.mk hDw
          clear hDw
          go_wp2_with (first | (refine gate_ (.load 115 (.tmp 43)) rfl ?_; refine wpList_load_mid rfl 115 (.tmp 43) rfl g 0 rfl x.cells.toList _ HDw.out.range Tryd.underlying115 rfl (by rw [size8]; rfl) ?_; simp only [Act.put, List.setIfInBounds_toArray, List.set_cons_zero, List.set_cons_succ, Array.toArray_toList]) | (refine gate_ (.store 115 (.tmp 5) (.tmp 44)) rfl ?_; refine wpList_plain rfl (fun K hK => ?_); refine wp_store_row 115 (.tmp 5) (.tmp 44) rfl wr.heap.size x.cells rfl rfl 115 (arr .u32 (zs 8)) (heap_alloc_new wr _) (by rw [size8]; rfl) rfl (arr_one .u32 x.l) (hK _ _ ?_); rw [setRow_new]; clear hK K; simp only [Act.put]))
          have hjL : j = 8 ∧ L' = L + 8 := by have := HJ.out; omega
          obtain ⟨rfl, hLe⟩ := hjL
          have HP : Aside0 (RowB w.heap.size 5 (.slice (some ⟨g2, 0, none⟩) L' cap2) (fill2 r n) (wr.alloc (.cells x.cells 115))) := ⟨G1.out.alloc _⟩
          have HS : Aside0 (Row (wr.alloc (.cells x.cells 115)) wr.heap.size 115 (fd x ⟨(fill2 r n).toArray⟩ 0).l) := ⟨Row.new wr 115 x.l⟩
          have HB : Aside0 (Below w.heap.size w (wr.alloc (.cells x.cells 115))) := ⟨G2.out.alloc G2.out.size _⟩
          have hgs : g2 < wr.heap.size := (G1.out.lt g2 rfl).2
          have hgB : w.heap.size ≤ wr.heap.size := G2.out.size
          have hlen : (fill2 r n).length = L' := by unfold fill2; rw [List.length_append, szb_len, hF1.out, hLe]
          have hL64 : 64 * (L' / 64) = L' := by
            have := fill2_64 r n
            rw [hlen] at this
            exact this
          have hcap : L' ≤ cap2 := by
            obtain ⟨_, _, hv, _, _, h1, _⟩ := G1.out.ne (by intro h0; have := congrArg List.length h0; unfold fill1 fill0 at this; simp at this)
            simp only [Value.slice.injEq] at hv
            omega
          have Hlen := Lib.hid hlen
          have HL64 := Lib.hid hL64
          clear G1 G2 HDw HJ hlen hL64 hm hLe
          generalize hWR : wr.alloc (.cells x.cells 115) = w1 at *
          clear hWR
          generalize wr.heap.size = gs at *
          generalize hPL : fill2 r n = PL at *
          have HPL := Lib.hid hPL
          clear hPL
          go_loopg [3] (L' / 64) (fun m v wr => ∃ (A : Option Addr) (k O M c : Nat), v = .slice A M c ∧ M ≤ 208 ∧ M ≤ c ∧ Aside0 (k + m = L' / 64 ∧ M = 64 * m ∧ O = 64 * k ∧ (m ≠ 0 → A = some ⟨g2, O, none⟩)) ∧ Aside0 (RowB w.heap.size 5 (.slice (some ⟨g2, 0, none⟩) L' cap2) PL wr) ∧ Aside0 (Row wr gs 115 (fd x ⟨PL.toArray⟩ k).l) ∧ Aside0 (Below w.heap.size w wr))
          case atStart => exact ⟨_, 0, 0, _, _, rfl, by omega, by omega, ⟨by omega, by have := HL64.out; omega, by omega, fun _ => rfl⟩, HP, HS, HB⟩
          case round =>
            clear HP HS HB
            obtain ⟨A, k, O, M, c, rfl, hM, hMc, HJ, G1, HS, G2⟩ := hrel
            by_cases hm : gk = 0
            · obtain rfl : M = 0 := by have := HJ.out; omega
              obtain rfl : k = L' / 64 := by have := HJ.out.1; omega
              clear HJ hm
              generalize hY : fd x ⟨PL.toArray⟩ (L' / 64) = y at *
              have HY := Lib.hid hY
              clear hY
              have HSa := HS.out.alloc (.cells #[.pointer none, .slice none 0 0] 101)
              go_wp2_with (refine gate_ (.load 115 (.tmp 5)) rfl ?_; refine wpList_load_row rfl 115 (.tmp 5) rfl gs rfl _ y.cells (0, 0) _ HSa Tryd.underlying115 rfl size8 ?_; simp only [Act.put, List.setIfInBounds_toArray, List.set_cons_zero, List.set_cons_succ])
              have HD0 : Aside0 (Bd (wr.heap.size + 1) wr.heap.size [] (wr.alloc (.cells #[.pointer none, .slice none 0 0] 101))) := ⟨Bd.new _ wr⟩
              have HF0 : Aside0 (Bf (wr.heap.size + 1) wr.heap.size (wr.alloc (.cells #[.pointer none, .slice none 0 0] 101)) (wr.alloc (.cells #[.pointer none, .slice none 0 0] 101))) := ⟨Bf.refl _ _ _⟩
              have HS0 : Aside0 ((wr.alloc (.cells #[.pointer none, .slice none 0 0] 101)).heap.size = wr.heap.size + 1) := ⟨by simp⟩
              have HB0 : Aside0 (Below w.heap.size w (wr.alloc (.cells #[.pointer none, .slice none 0 0] 101))) := ⟨G2.out.alloc G2.out.size _⟩
              have hBs := G2.out.size
              clear HSa HS G1 G2
              generalize wr.alloc (.cells #[.pointer none, .slice none 0 0] 101) = w2 at *
              generalize wr.heap.size = bb at *
              go_loopw [56] (fun i wr => ∃ k : Nat, k ≤ 8 ∧ i = .int .i64 k ∧ Aside0 (Bd (bb + 1) bb (outk y.l k) wr) ∧ Aside0 (Bf (bb + 1) bb w2 wr)) (fun i _ => 8 - (intOf i).toNat)
              case atStart => exact ⟨0, by omega, rfl, HD0, HF0⟩
              case round =>
                clear HD0 HF0
                obtain ⟨k, hk, rfl, HD0, HF0⟩ := hrel
                by_cases hlt : k < 8
                · have hix := index_word y k hlt
                  have hOk : Hid (outk y.l (k + 1) = outk y.l k ++ be4 (y.l.getD k 0)) := Lib.hid rfl
                  have hOl := outk_len y.l k
                  generalize y.l.getD k 0 = xx at *
                  have hbs : bb + 1 ≤ wr.heap.size := by have := HS0.out; have := HF0.out.size; omega
                  go_wp2_with (fail)
                  refine Calls.mono (bWrite (bb + 1) bb (outk y.l k) (be4 xx) _ _ _ (HD0.out.keep (below_alloc (Below.refl _ _) _)) ?_ ?_ ?_ ?_ ?_) ?_
                  · intro j z hz
                    match j, hz with
                    | 0, hz => simp only [be4, List.getElem?_cons_zero, Option.some.injEq] at hz; subst hz; rw [be_byte]; simp [Addr.add]
                    | 1, hz => simp only [be4, List.getElem?_cons_zero, List.getElem?_cons_succ, Option.some.injEq] at hz; subst hz; rw [be_byte]; simp [Addr.add]
                    | 2, hz => simp only [be4, List.getElem?_cons_zero, List.getElem?_cons_succ, Option.some.injEq] at hz; subst hz; rw [be_byte]; simp [Addr.add]
                    | 3, hz => simp only [be4, List.getElem?_cons_zero, List.getElem?_cons_succ, Option.some.injEq] at hz; subst hz; rw [be_byte]; simp [Addr.add]
                    | j + 4, hz => simp [be4] at hz
                  · show wr.heap.size ≠ bb
                    omega
                  · simp [be4]
                  · rw [hOl]; simp [be4]; omega
                  · simp; omega
                  rintro e w3 ⟨rfl, hD3, hF3⟩
                  rw [← hOk.out] at hD3
                  have hF4 := HF0.out.trans ((Bf.of_below (below_alloc (Below.refl _ _) _) hbs).trans hF3)
                  have HD0 := Aside0.mk hD3
                  have HF0 := Aside0.mk hF4
                  clear hD3 hF3 hF4 hix
                  go_wp2_with fail
                  go_roundw
                  case rel => exact ⟨k + 1, by omega, by go_num, HD0, HF0⟩
                  case measure => simp [intOf]; omega
                · obtain rfl : k = 8 := by omega
                  go_wp2_with (fail)
                  have hh := bString (bb + 1) bb (outk y.l 8) wr HD0.out
                  refine Calls.mono hh ?_
                  clear hh
                  rintro e w3 ⟨rfl, hF3⟩
                  go_wp2_with fail
                  go_ret
                  rw [HPL.out, Hlen.out, HY.out]
                  exact ⟨rfl, HB0.out.trans ((HF0.out.trans hF3).below (by omega) (by omega))⟩
            · obtain ⟨m, rfl⟩ : ∃ m, gk = m + 1 := ⟨gk - 1, by omega⟩
              obtain ⟨hk, hM', hO, hA⟩ := HJ.out
              obtain rfl := hA (by omega)
              have hM64 : (64 : Int) ≤ (M : Int) := by omega
              have hc64 : (64 : Int) ≤ (c : Int) := by omega
              have hcx : ∀ (j : Nat) (x : UInt8), ((PL.drop (64 * k)).take 64)[j]? = some x → PL[O + j]? = some x := by
                intro j x hx
                rw [List.getElem?_take] at hx
                split at hx
                · rw [List.getElem?_drop, ← hO] at hx; exact hx
                · cases hx
              have hchl : ((PL.drop (64 * k)).take 64).length = 64 := by
                rw [List.length_take, List.length_drop]
                have := Hlen.out
                have := HL64.out
                omega
              have hchunk : (⟨((PL.drop (64 * k)).take 64).toArray⟩ : ByteArray) = (⟨PL.toArray⟩ : ByteArray).extract (64 * k) (64 * k + 64) := by
                have := B_extract PL (64 * k) (64 * k + 64)
                rw [Nat.add_sub_cancel_left] at this
                exact this.symm
              have hb64 : ((⟨PL.toArray⟩ : ByteArray).extract (64 * k) (64 * k + 64)).size = 64 := by
                rw [← hchunk]
                show ((PL.drop (64 * k)).take 64).toArray.size = 64
                rw [List.size_toArray, hchl]
              have Hhk := Lib.hid hk
              have HhM := Lib.hid hM'
              have HhO := Lib.hid hO
              have Hcx := Lib.hid hcx
              have Hchl := Lib.hid hchl
              have Hchk := Lib.hid hchunk
              have Hb64 := Lib.hid hb64
              have hfd : Hid (fd x ⟨PL.toArray⟩ (k + 1) = bv (fd x ⟨PL.toArray⟩ k) ((⟨PL.toArray⟩ : ByteArray).extract (64 * k) (64 * k + 64))) := Lib.hid rfl
              clear hk hM' hO hA hcx hchl hchunk hb64 hm HJ
              generalize fd x ⟨PL.toArray⟩ k = y at *
              generalize (⟨PL.toArray⟩ : ByteArray).extract (64 * k) (64 * k + 64) = pb at *
              go_wp2_with (fail)
              refine start_ (n := 9) (S := fun w' => Row w' gs 115 y.l ∧ Aside0 (RowB w.heap.size 5 (.slice (some ⟨g2, 0, none⟩) L' cap2) PL w') ∧ Aside0 (Below w.heap.size w w')) (ds := [7]) #[false, false, false, false, false, false, false, false, false] (by kernel_rfl) rfl rfl ⟨(Row.drewN HS.out 1), ⟨G1.out⟩, ⟨Below.drew G2.out⟩⟩ (fun hHeld => ?_)
              refine pure_ (i := 1) (N := some 49) (v := ?_) (a' := ?_) #[false, true, false, false, false, false, false, false, false] rfl rfl (by kernel_rfl) (fun _ _ _ h => h) (Or.inl ⟨by rfl, ?_⟩) ?_ ?_
              rotate_left
              · intro w'
                go_simp
                with_reducible rfl
              rotate_left
              · simp only [Act.put, List.setIfInBounds_toArray, List.set_cons_zero, List.set_cons_succ]
                rfl
              refine pure_ (i := 2) (N := some 50) (v := ?_) (a' := ?_) #[false, true, true, false, false, false, false, false, false] rfl rfl (by kernel_rfl) (fun _ _ _ h => h) (Or.inl ⟨by rfl, ?_⟩) ?_ ?_
              rotate_left
              · intro w'
                go_simp
                with_reducible rfl
              rotate_left
              · simp only [Act.put, List.setIfInBounds_toArray, List.set_cons_zero, List.set_cons_succ]
                rfl
              refine pure_ (i := 5) (N := some 53) (v := ?_) (a' := ?_) #[false, true, true, false, false, true, false, false, false] rfl rfl (by kernel_rfl) (fun _ _ _ h => h) (Or.inl ⟨by rfl, ?_⟩) ?_ ?_
              rotate_left
              · intro w'
                go_simp
                with_reducible rfl
              rotate_left
              · simp only [Act.put, List.setIfInBounds_toArray, List.set_cons_zero, List.set_cons_succ]
                rfl
              refine pure_ (i := 6) (N := some 54) (v := ?_) (a' := ?_) #[false, true, true, false, false, true, true, false, false] rfl rfl (by kernel_rfl) (fun _ _ _ h => h) (Or.inl ⟨by rfl, ?_⟩) ?_ ?_
              rotate_left
              · intro w'
                go_simp
                with_reducible rfl
              rotate_left
              · simp only [Act.put, List.setIfInBounds_toArray, List.set_cons_zero, List.set_cons_succ]
                rfl
              refine take_ (i := 0) (N := some 48) (v := ?_) (a' := ?_) #[true, true, true, false, false, true, true, false, false] rfl rfl (by kernel_rfl) (fun _ _ _ h => h) (Or.inl ⟨by rfl, ?_⟩) hHeld ?_ ?_
              rotate_left
              · rintro w' ⟨s0, s1, s2⟩
                refine load_run _ 115 (.tmp 5) gs _ _ _ s0 Tryd.underlying115 size8 ?_ ?_ <;> rfl
              rotate_left
              · simp only [Act.put, List.setIfInBounds_toArray, List.set_cons_zero, List.set_cons_succ]
                rfl
              refine take_ (i := 3) (N := some 51) (v := ?_) (a' := ?_) #[true, true, true, true, false, true, true, false, false] rfl rfl (by kernel_rfl) (fun _ _ _ h => h) (Or.inl ⟨by rfl, ?_⟩) hHeld ?_ ?_
              rotate_left
              · rintro w' ⟨s0, s1, s2⟩
                refine conv_run _ (.tmp 50) g2 O c ((PL.drop (64 * k)).take 64) pb _ Hchk.out (fun j x hx => ?_) Hchl.out ?_ ?_
                · exact s1.out.cells (g := g2) rfl (O + j) x (Hcx.out j x hx)
                · rfl
                · rfl
              rotate_left
              · simp only [Act.put, List.setIfInBounds_toArray, List.set_cons_zero, List.set_cons_succ]
                rfl
              refine one_ (i := 4) (N := some 52) #[true, true, true, true, true, true, true, false, false] rfl rfl (by kernel_rfl) (by decide) (fun K hK => ?_)
              refine goes_ Tryd.func73 (by kernel_rfl) rfl #[.agg y.cells, .string pb] (by rfl) rfl rfl (by simp only [List.map_toArray, List.map_cons, List.map_nil]; rfl) ?_
              with_reducible refine (block_any y _ Hb64.out _).mono ?_
              rintro e w3 ⟨rfl, hb⟩
              refine ⟨_, rfl, ?_⟩
              have HS3 := hHeld.1.keep hb
              have G13 := hHeld.2.1.out.below hb
              have G23 := below2 hHeld.2.2.out hHeld.2.2.out.size hb
              refine hK.out _ _ ⟨HS3, ⟨G13⟩, ⟨G23⟩⟩ (fun hHeld => ?_)
              clear hK K
              refine norm_ (a' := ?_) ?_ ?_
              rotate_left
              · show Act.put _ (some 52) _ = _
                simp only [Act.put, List.setIfInBounds_toArray, List.set_cons_zero, List.set_cons_succ]
                rfl
              refine last_ (i := 7) (N := none) #[true, true, true, true, true, true, true, true, false] rfl rfl (by kernel_rfl) (by decide) (fun K hK => ?_)
              refine skip_ (by rfl) rfl (store_run _ 115 (.tmp 5) (.tmp 52) gs _ hHeld.1 (ys := (bv y pb).l) size8 rfl rfl rfl rfl) ?_
              have HS := Aside0.mk (hHeld.1.put (bv y pb).l)
              have G1 := Aside0.mk (hHeld.2.1.out.past (g := gs) (fun i hi' => (show g2 = i by simpa [Value.ownBlock] using hi') ▸ (by omega : g2 ≠ gs)) (arr .u32 (bv y pb).l))
              have G2 := Aside0.mk (below_setRow hHeld.2.2.out (hgB) (arr .u32 (bv y pb).l))
              clear hHeld HS3 G13 G23 hb
              generalize w3.setRow gs (arr .u32 (bv y pb).l) = w4 at *
              refine hK.out _ _ ?_
              clear hK K
              refine pure_ (i := 8) (N := some 3) (v := ?_) (a' := ?_) #[true, true, true, true, true, true, true, true, true] rfl rfl (by kernel_rfl) (fun _ _ _ h => h) (Or.inl ⟨by rfl, ?_⟩) ?_ ?_
              rotate_left
              · intro w'
                go_simp
                with_reducible rfl
              rotate_left
              · simp only [Act.put, List.setIfInBounds_toArray, List.set_cons_zero, List.set_cons_succ]
                rfl
              refine done_ (by kernel_rfl) ?_
              go_wp2_with fail
              all_goals
                go_roundg m
                case measure => omega
                case rel =>
                  refine ⟨_, k + 1, O + 64, _, _, rfl, by omega, by omega, ⟨by have := Hhk.out; omega, by have := HhM.out; omega, by have := HhO.out; omega, fun h0 => ?_⟩, G1, ⟨by rw [hfd.out]; exact HS.out⟩, G2⟩
                  first | rfl | (exfalso; have := HhM.out; omega)
        · obtain ⟨k, rfl⟩ : ∃ k : Nat, gk = k + 1 := ⟨gk - 1, by omega⟩
          obtain rfl : q = (k : Int) := by have := HJ.out; omega
          have hk7 : (k : Int) ≤ 7 := by have := HJ.out; omega
          have c9 := (HD.out.keep G2.out).c9
          have hw1 : IntKind.u64.wrap (n : Int) = (n : Int) := by rw [IntKind.wrap_u64]; omega
          have hw2 : IntKind.u64.wrap ((n : Int) * 8) = (n : Int) * 8 := by rw [IntKind.wrap_u64]; omega
          have hw3 : IntKind.i64.wrap (8 * (k : Int)) = 8 * (k : Int) := IntWalk.i64_in _ (by omega)
          have hj : j + k = 7 := by have := HJ.out; omega
          have hbv : ((UInt8.ofNat (n * 8 / 2 ^ (8 * k) % 256)).toNat : Int) = (n : Int) * 8 / 2 ^ (8 * k) % 256 := by
            rw [UInt8.toNat_ofNat', Nat.mod_eq_of_lt (Nat.mod_lt _ (by decide))]
            push_cast
            rfl
          have Hbv := Lib.hid hbv
          have HL1 : Hid ((fill1 r ++ szb n j).length = L') := Lib.hid (by rw [List.length_append, hF1.out, szb_len]; have := HJ.out; omega)
          have hS : Hid (fill1 r ++ szb n (j + 1) = (fill1 r ++ szb n j) ++ [UInt8.ofNat (n * 8 / 2 ^ (8 * k) % 256)]) := Lib.hid (by rw [szb, show 7 - j = k by omega, List.append_assoc])
          clear hbv
          go_wp2_with (at_builtin; refine wpList_append_rowB rfl _ _ 59 rfl w.heap.size 5 i0 (by kernel_rfl) hi hz0 hz1 hz2 _ _ [UInt8.ofNat (n * 8 / 2 ^ (8 * k) % 256)] rfl (G1.out.alloc _) ⟨wr.heap.size, 0, none⟩ 1 rfl ?c1 ?c2 ?c3 ?_)
          case c1 =>
            intro j u hj
            match j, hj with
            | 0, hj =>
              simp only [List.getElem?_cons_zero, Option.some.injEq] at hj
              subst hj
              rw [Hbv.out]
              simp [Addr.add]
          case c2 => have := HL1.out; simp only [List.length_cons, List.length_nil]; omega
          case c3 => have := G2.out.size; simp; omega
          intro v' w2 hown' hgrow
          rw [← List.append_assoc] at hown'
          obtain ⟨g3, cap3, rfl⟩ := row_len hown' (L := L') (by rw [List.length_append, HL1.out]; rfl)
          have G2 := Aside0.mk ((G2.out.alloc G2.out.size _).grown hgrow (by have := G2.out.size; simp; omega) (fun k hk => (G1.out.lt k hk).1))
          have G1 := Aside0.mk hown'
          clear hown' hgrow c9 hw1 hw2
          have hw4 : IntKind.i64.wrap ((k : Int) - 1) = (k : Int) - 1 := IntWalk.i64_in _ (by omega)
          go_wp2
          go_roundg k
          case measure => omega
          case rel => exact ⟨_, _, j + 1, _, _, rfl, rfl, by have := HJ.out; omega, ⟨by have := HJ.out; omega⟩, ⟨by rw [hS.out]; exact G1.out⟩, G2⟩
    · have t1 : ¬ (L : Int) % 64 = 56 := by have := HJ.out; unfold pz at this; omega
      have t2 : ((L : Int) % 64 == 56) = false := by simpa using t1
      have t3 : ((L : Int) % 64 != 56) = true := by simp [bne, t2]
      clear t1
      have hl1 : (fill0 r ++ List.replicate j 0).length = L := by rw [List.length_append, List.length_replicate, G3.out]; have := HJ.out; omega
      have HL1 := Lib.hid hl1
      clear hl1
      go_wp2_with (at_builtin; refine wpList_append_rowB rfl _ _ 59 rfl w.heap.size 5 i0 (by kernel_rfl) hi hz0 hz1 hz2 _ _ [0] rfl (G1.out.alloc _) ⟨wr.heap.size, 0, none⟩ 1 rfl ?c1 ?c2 ?c3 ?_)
      case c1 =>
        intro j u hj
        match j, hj with
        | 0, hj => simp at hj; subst hj; simp [Addr.add]
      case c2 => have := HL1.out; simp only [List.length_cons, List.length_nil]; omega
      case c3 => have := G2.out.size; simp; omega
      intro v' w2 hown' hgrow
      rw [← List.append_assoc] at hown'
      obtain ⟨g2, cap2, rfl⟩ := row_len hown' (L := L) (by rw [List.length_append, HL1.out]; rfl)
      have G2 := Aside0.mk ((G2.out.alloc G2.out.size _).grown hgrow (by have := G2.out.size; simp; omega) (fun k hk => (G1.out.lt k hk).1))
      have G1 := Aside0.mk hown'
      clear hown' hgrow
      go_wp2
      go_roundg (gk - 1)
      case measure => omega
      case rel => exact ⟨_, _, j + 1, L + 1, rfl, by have := HJ.out; omega, ⟨by have := HJ.out; omega⟩, ⟨by rw [List.replicate_succ', ← List.append_assoc]; exact G1.out⟩, G2⟩
end Go.Proofs.YtpgfafpjfdbjmaaDoor
end
section
namespace Go.Proofs.YtpgfafpjfdbjmaaDoor
end Go.Proofs.YtpgfafpjfdbjmaaDoor
end
section
namespace Go.Proofs.YtpgfafpjfdbjmaaDoor
open Go.RowKit Q Go.Proofs.YtpgfafpjfdbjmaaDoorW.PrintWords Go.Proofs.YtpgfafpjfdbjmaaDoorW.PrintLast Go.Proofs.YtpgfafpjfdbjmaaDoorW.PrintMore
structure W8 (w : World) (g : Nat) (x : V8) : Prop where
  lt : g < w.heap.size
  c0 : w.cell? ⟨g, 0, none⟩ = some (.int .u32 x.a)
  c1 : w.cell? ⟨g, 1, none⟩ = some (.int .u32 x.b)
  c2 : w.cell? ⟨g, 2, none⟩ = some (.int .u32 x.c)
  c3 : w.cell? ⟨g, 3, none⟩ = some (.int .u32 x.d)
  c4 : w.cell? ⟨g, 4, none⟩ = some (.int .u32 x.e)
  c5 : w.cell? ⟨g, 5, none⟩ = some (.int .u32 x.f)
  c6 : w.cell? ⟨g, 6, none⟩ = some (.int .u32 x.g)
  c7 : w.cell? ⟨g, 7, none⟩ = some (.int .u32 x.h)
theorem W8.keep {w w' : World} {g : Nat} {x : V8} (h : W8 w g x) (hb : Below w.heap.size w w') : W8 w' g x :=
  ⟨Nat.lt_of_lt_of_le h.lt hb.size, (hb.cell h.lt).trans h.c0, (hb.cell h.lt).trans h.c1, (hb.cell h.lt).trans h.c2, (hb.cell h.lt).trans h.c3, (hb.cell h.lt).trans h.c4, (hb.cell h.lt).trans h.c5, (hb.cell h.lt).trans h.c6, (hb.cell h.lt).trans h.c7⟩
theorem W8.at {w : World} {g : Nat} {x : V8} (h : W8 w g x) (j : Nat) (v : Value) (hj : (x.cells)[j]? = some v) : w.cell? ⟨g, j, none⟩ = some v := by
  match j, hj with
  | 0, hj => exact h.c0.trans hj
  | 1, hj => exact h.c1.trans hj
  | 2, hj => exact h.c2.trans hj
  | 3, hj => exact h.c3.trans hj
  | 4, hj => exact h.c4.trans hj
  | 5, hj => exact h.c5.trans hj
  | 6, hj => exact h.c6.trans hj
  | 7, hj => exact h.c7.trans hj
  | j + 8, hj => simp [V8.cells] at hj
structure RowI (w : World) (g : Nat) (l : List Int) : Prop where
  lt : g < w.heap.size
  at' : ∀ j, j < l.length → w.cell? ⟨g, j, none⟩ = some (.int .u32 (l.getD j 0))
theorem RowI.keep {w w' : World} {g : Nat} {l : List Int} (h : RowI w g l) (hb : Below w.heap.size w w') : RowI w' g l :=
  ⟨Nat.lt_of_lt_of_le h.lt hb.size, fun j hj => (hb.cell h.lt).trans (h.at' j hj)⟩
theorem W8.of {w : World} {g : Nat} {T : TypeId} (x : V8) (h : Row w g T x.l) : W8 w g x :=
  ⟨h.lt, h.cell 0 (by simp [V8.l]), h.cell 1 (by simp [V8.l]), h.cell 2 (by simp [V8.l]), h.cell 3 (by simp [V8.l]), h.cell 4 (by simp [V8.l]), h.cell 5 (by simp [V8.l]), h.cell 6 (by simp [V8.l]), h.cell 7 (by simp [V8.l])⟩
theorem W8.other {w : World} {g g' : Nat} {x : V8} (h : W8 w g x) (hne : g ≠ g') (i : Nat) (v : Value) : W8 (w.setCell ⟨g', i, none⟩ v) g x := by
  have hb : (w.setCell ⟨g', i, none⟩ v).heap[g]? = w.heap[g]? := Below.heap_setCell _ _ _ _ (fun e => hne e)
  have hc : ∀ k, (w.setCell ⟨g', i, none⟩ v).cell? ⟨g, k, none⟩ = w.cell? ⟨g, k, none⟩ := fun k => World.cell?_of_block hb
  exact ⟨by simp [World.setCell]; exact h.lt, (hc _).trans h.c0, (hc _).trans h.c1, (hc _).trans h.c2, (hc _).trans h.c3, (hc _).trans h.c4, (hc _).trans h.c5, (hc _).trans h.c6, (hc _).trans h.c7⟩
end Go.Proofs.YtpgfafpjfdbjmaaDoor
end
section
namespace Go.Proofs.YtpgfafpjfdbjmaaDoor
end Go.Proofs.YtpgfafpjfdbjmaaDoor
end
section
namespace Go.Proofs.YtpgfafpjfdbjmaaDoor
open Go.RowKit Q Go.Proofs.YtpgfafpjfdbjmaaDoorW.PrintWords Go.Proofs.YtpgfafpjfdbjmaaDoorW.PrintLast Go.Proofs.YtpgfafpjfdbjmaaDoorW.PrintMore
theorem fd_prefix (x : V8) (a b : List UInt8) (q : Nat) (ha : 64 * q ≤ a.length) : fd x (B (a ++ b)) q = fd x (B a) q := by
  induction q with
  | zero => rfl
  | succ q ih =>
    rw [fd, fd, ih (by omega), B_extract, B_extract]
    congr 2
    rw [List.drop_append_of_le_length (by omega), List.take_append_of_le_length (by rw [List.length_drop]; omega)]
theorem fd_append (x : V8) (a b : List UInt8) (q : Nat) (ha : a.length = 64 * q) (k : Nat) : fd x (B (a ++ b)) (q + k) = fd (fd x (B a) q) (B b) k := by
  induction k with
  | zero => exact fd_prefix x a b q (by omega)
  | succ k ih =>
    rw [← Nat.add_assoc, fd, fd, ih, B_extract, B_extract]
    congr 2
    rw [List.drop_append, ha, show 64 * (q + k) - 64 * q = 64 * k by omega, List.drop_of_length_le (by rw [ha]; omega), List.nil_append, show 64 * (q + k) + 64 - 64 * (q + k) = 64 by omega, show 64 * k + 64 - 64 * k = 64 by omega]
theorem parts (l : List UInt8) : ∃ a b : List UInt8, l = a ++ b ∧ a.length = 64 * (l.length / 64) ∧ b.length = l.length % 64 ∧ b = l.drop (64 * (l.length / 64)) ∧ a = l.take (64 * (l.length / 64)) :=
  ⟨l.take (64 * (l.length / 64)), l.drop (64 * (l.length / 64)), (List.take_append_drop _ _).symm, by rw [List.length_take]; omega, by rw [List.length_drop]; omega, rfl, rfl⟩
theorem rest_eq (l : List UInt8) : (B l).extract (64 * ((B l).size / 64)) (B l).size = B (l.drop (64 * (l.length / 64))) := by
  rw [B_size, B_extract, List.take_of_length_le (by rw [List.length_drop]; omega)]
theorem fd_more (x : V8) (l m : List UInt8) : fd (fd x (B l) (l.length / 64)) (B (l.drop (64 * (l.length / 64)) ++ m)) ((l.drop (64 * (l.length / 64)) ++ m).length / 64) = fd x (B (l ++ m)) ((l ++ m).length / 64) := by
  obtain ⟨a, b, hl, ha, hb, hbd, hat⟩ := parts l
  rw [← hbd]
  have e1 : fd x (B l) (l.length / 64) = fd x (B a) (l.length / 64) := by
    conv => lhs; rw [hl]
    rw [show (a ++ b).length = l.length by rw [← hl]]
    exact fd_prefix x a b _ (by omega)
  rw [e1, ← fd_append x a (b ++ m) _ ha, ← List.append_assoc, ← hl]
  congr 1
  simp only [List.length_append]
  omega
theorem fill0_B (l : List UInt8) : fill0 (B l) = l ++ [128] := rfl
theorem fill_more (l : List UInt8) (n : Nat) : fill2 (B l) n = l.take (64 * (l.length / 64)) ++ fill2 (B (l.drop (64 * (l.length / 64)))) n := by
  unfold fill2 fill1
  rw [fill0_B, fill0_B]
  have hp : pz (l ++ [128]).length = pz (l.drop (64 * (l.length / 64)) ++ [128]).length := by
    unfold pz
    simp only [List.length_append, List.length_drop, List.length_cons, List.length_nil]
    omega
  rw [hp]
  simp only [← List.append_assoc]
  rw [List.take_append_drop]
def SHA (l : List UInt8) : List UInt8 := outk (fd H8 (B (fill2 (B l) l.length)) ((fill2 (B l) l.length).length / 64)).l 8
theorem sha_rest (l : List UInt8) : outk (fd (fd H8 (B l) (l.length / 64)) (B (fill2 (B (l.drop (64 * (l.length / 64)))) l.length)) ((fill2 (B (l.drop (64 * (l.length / 64)))) l.length).length / 64)).l 8 = SHA l := by
  obtain ⟨a, b, hl, ha, hb, hbd, hat⟩ := parts l
  unfold SHA
  rw [← hbd]
  have e1 : fd H8 (B l) (l.length / 64) = fd H8 (B a) (l.length / 64) := by
    conv => lhs; rw [hl]
    rw [show (a ++ b).length = l.length by rw [← hl]]
    exact fd_prefix H8 a b _ (by omega)
  have e2 := fill_more l l.length
  rw [← hbd, ← hat] at e2
  rw [e1, ← fd_append H8 a _ _ ha, e2]
  congr 3
  rw [List.length_append, ha]
  omega
theorem SHA_len (l : List UInt8) : (SHA l).length = 32 := outk_len _ 8
def Is (w : World) (g : Nat) (l : List UInt8) : Prop := DSt w g (fd H8 (B l) (l.length / 64)) (B (l.drop (64 * (l.length / 64)))) l.length
theorem new_is (w : World) : Calls Tryd.prog 48 #[] w fun e w' => ∃ g, e = .returned (.pointer (some ⟨g, 0, none⟩)) ∧ Is w' g [] ∧ w.heap.size ≤ g ∧ Below w.heap.size w w' := dnew_calls w
theorem add_is (g : Nat) (l m : List UInt8) (w : World) (h : Is w g l) (hl : l.length ≤ 140737488355328) (hm : m.length ≤ 140737488355328) :
    Calls Tryd.prog 49 #[.pointer (some ⟨g, 0, none⟩), .string (B m)] w fun e w' => e = .returned (.int .i64 (l ++ m).length) ∧ Is w' g (l ++ m) ∧ Bf w.heap.size g w w' := by
  refine (dadd_calls g _ _ (B m) l.length w h (by rw [B_size, List.length_drop]; omega) (by rw [B_size]; exact hm) hl).mono ?_
  rintro e w' ⟨rfl, hD, hF⟩
  refine ⟨by rw [B_size, List.length_append], ?_, hF⟩
  unfold Is
  rw [B_append, B_size, B_size] at hD
  rw [← fd_more]
  have e2 : (B (l.drop (64 * (l.length / 64)) ++ m)).extract (64 * ((l.drop (64 * (l.length / 64)) ++ m).length / 64)) (l.drop (64 * (l.length / 64)) ++ m).length = B ((l ++ m).drop (64 * ((l.length + m.length) / 64))) := by
    have := rest_eq (l.drop (64 * (l.length / 64)) ++ m)
    rw [B_size] at this
    rw [this]
    obtain ⟨a, b, hl', ha, hb, hbd, hat⟩ := parts l
    rw [← hbd]
    have hlm : l ++ m = a ++ (b ++ m) := by rw [← List.append_assoc, ← hl']
    have hN : 64 * ((l.length + m.length) / 64) = a.length + 64 * ((b ++ m).length / 64) := by
      rw [List.length_append, ha]
      omega
    rw [hN, hlm, List.drop_length_add_append]
  rw [e2] at hD
  simp only [List.length_append] at hD ⊢
  exact hD
theorem sum_is (g : Nat) (l : List UInt8) (w : World) (h : Is w g l) (hl : l.length ≤ 140737488355328) :
    Calls Tryd.prog 50 #[.pointer (some ⟨g, 0, none⟩)] w fun e w' => e = .returned (.string (B (SHA l))) ∧ Below w.heap.size w w' := by
  refine (dsum_calls g _ _ l.length w h (by rw [B_size, List.length_drop]; omega) hl).mono ?_
  rintro e w' ⟨rfl, hB⟩
  refine ⟨?_, hB⟩
  rw [← sha_rest l]
  rfl
set_option maxRecDepth 100000 in
set_option maxHeartbeats 400000 in
theorem dsum_all (l : List UInt8) (hl : l.length ≤ 140737488355328) (w : World) : Calls Tryd.prog 29 #[.string (B l)] w fun e w' => e = .returned (.string (B (SHA l))) ∧ Below w.heap.size w w' := by
  generalize hbl : B l = s
  have HBL := Lib.hid hbl
  clear hbl
  go_enter Tryd.func29, Tryd.ntmps29
  go_wp2_with fail
  refine Calls.mono (new_is w) ?_
  rintro e w1 ⟨g, rfl, hI, hg, hB⟩
  have HI := Aside0.mk hI
  have HB := Aside0.mk hB
  clear hI hB
  go_wp2_with fail
  rw [← HBL.out]
  refine Calls.mono (add_is g [] l w1 HI.out (Nat.zero_le _) hl) ?_
  rintro e w2 ⟨rfl, hI, hF⟩
  have HI := Aside0.mk hI
  have HB := Aside0.mk (HB.out.trans (hF.below HB.out.size hg))
  clear hI hF
  go_wp2_with fail
  refine Calls.mono (sum_is g l w2 HI.out hl) ?_
  rintro e w3 ⟨rfl, hB3⟩
  have HB := Aside0.mk (below2 HB.out HB.out.size hB3)
  clear hB3
  go_wp2_with fail
  go_ret
  exact ⟨rfl, HB.out⟩
end Go.Proofs.YtpgfafpjfdbjmaaDoor
end
section
namespace Go.Proofs.YtpgfafpjfdbjmaaDoor
open Go.RowKit Q Go.Proofs.YtpgfafpjfdbjmaaDoorW.PrintWords Go.Proofs.YtpgfafpjfdbjmaaDoorW.PrintLast Go.Proofs.YtpgfafpjfdbjmaaDoorW.PrintMore
def digest_Sum.f (a0 : ByteArray) : Option ByteArray := if a0.size ≤ 17592186044416 then some (B (SHA a0.data.toList)) else none
theorem digest_Sum.calls (a0 : ByteArray) (r : ByteArray) (w : World) (h : digest_Sum.f a0 = some r) :
    Calls Tryd.prog 29 #[.string a0] w fun e w' => e = .returned (.string r) ∧ Below w.heap.size w w' := by
  unfold digest_Sum.f at h
  split at h
  · rename_i hs
    obtain rfl := Option.some.inj h
    have := dsum_all a0.data.toList (by rw [size_data]; omega) w
    rw [B_eta] at this
    exact this
  · cases h
end Go.Proofs.YtpgfafpjfdbjmaaDoor
end
section
namespace Go.Proofs.YtpgfafpjfdbjmaaDoor
def enc (n : Nat) : List UInt8 := if n < 128 then [UInt8.ofNat n] else UInt8.ofNat (128 + n % 128) :: enc (n / 128)
termination_by n
decreasing_by omega
theorem enc_lt {n : Nat} (h : n < 128) : enc n = [UInt8.ofNat n] := by rw [enc, if_pos h]
theorem enc_ge {n : Nat} (h : 128 ≤ n) : enc n = UInt8.ofNat (128 + n % 128) :: enc (n / 128) := by rw [enc, if_neg (by omega)]
theorem enc_len (j : Nat) : ∀ n : Nat, n < 128 ^ (j + 1) → (enc n).length ≤ j + 1 := by
  induction j with
  | zero => intro n h; rw [enc_lt (by simpa using h)]; simp
  | succ j ih =>
    intro n h
    by_cases h1 : n < 128
    · rw [enc_lt h1]; simp
    · rw [enc_ge (by omega), List.length_cons]
      have : n / 128 < 128 ^ (j + 1) := by
        rw [Nat.pow_succ] at h
        exact Nat.div_lt_of_lt_mul (by omega)
      have := ih _ this
      omega
theorem u8_toNat (n : Nat) (h : n < 256) : (UInt8.ofNat n).toNat = n := UInt8.toNat_ofNat_of_lt' (by simpa using h)
def tk : List UInt8 → Nat → Nat → Nat × List UInt8 × Int
  | [], _, _ => (0, [], 3)
  | c :: l, i, n => if 128 ≤ c.toNat then (if i = 7 then (0, [], 4) else tk l (i + 1) (n + (c.toNat - 128) * 2 ^ (7 * i))) else if c.toNat = 0 ∧ 0 < i then (0, [], 4) else (n + c.toNat * 2 ^ (7 * i), l, 0)
theorem pow7 (i : Nat) : 2 ^ (7 * (i + 1)) = 128 * 2 ^ (7 * i) := by
  rw [show 7 * (i + 1) = 7 * i + 7 by omega, Nat.pow_add]; omega
theorem tk_enc (m : Nat) : ∀ (i n : Nat) (r : List UInt8), i ≤ 7 → m < 128 ^ (8 - i) → (0 < i → 0 < m) → tk (enc m ++ r) i n = (n + m * 2 ^ (7 * i), r, 0) := by
  induction m using Nat.strongRecOn with
  | ind m ih =>
    intro i n r hi hm h0
    by_cases h : m < 128
    · rw [enc_lt h]
      show tk (UInt8.ofNat m :: r) i n = _
      rw [tk, u8_toNat m (by omega), if_neg (by omega), if_neg (by omega)]
    · rw [enc_ge (by omega)]
      show tk (UInt8.ofNat (128 + m % 128) :: (enc (m / 128) ++ r)) i n = _
      rw [tk, u8_toNat _ (by omega), if_pos (by omega)]
      have hi6 : i ≠ 7 := by rintro rfl; simp at hm; omega
      rw [if_neg hi6, ih (m / 128) (by omega) (i + 1) _ r (by omega) ?_ (by omega)]
      · congr 1
        rw [pow7 i, Nat.add_sub_cancel_left]
        have e : m = 128 * (m / 128) + m % 128 := by omega
        generalize m / 128 = q at *
        generalize m % 128 = s at *
        subst e
        rw [Nat.add_mul, Nat.mul_comm 128 q, Nat.mul_assoc, Nat.add_assoc]
        congr 1
        rw [Nat.add_comm]
      · have e : 8 - i = (8 - (i + 1)) + 1 := by omega
        rw [e, Nat.pow_succ] at hm
        exact Nat.div_lt_of_lt_mul (by omega)
theorem tk_zero (m : Nat) (r : List UInt8) (h : m < 2 ^ 56) : tk (enc m ++ r) 0 0 = (m, r, 0) := by
  rw [tk_enc m 0 0 r (by omega) (by simpa using h) (by omega)]
  simp
theorem tk_inv : ∀ (l : List UInt8) (i n v : Nat) (r : List UInt8), i ≤ 7 → tk l i n = (v, r, 0) → ∃ m, l = enc m ++ r ∧ v = n + m * 2 ^ (7 * i) ∧ m < 128 ^ (8 - i) ∧ (0 < i → 0 < m)
  | [], i, n, v, r, hi, h => by simp [tk] at h
  | c :: l, i, n, v, r, hi, h => by
    rw [tk] at h
    have hc := c.toNat_lt
    by_cases h1 : 128 ≤ c.toNat
    · rw [if_pos h1] at h
      by_cases h7 : i = 7
      · rw [if_pos h7] at h; simp at h
      · rw [if_neg h7] at h
        obtain ⟨m, rfl, rfl, hm, h0⟩ := tk_inv l (i + 1) _ v r (by omega) h
        have hp : 0 < m := h0 (by omega)
        refine ⟨128 * m + (c.toNat - 128), ?_, ?_, ?_, fun _ => by omega⟩
        · have e1 : (128 * m + (c.toNat - 128)) / 128 = m := by omega
          have e2 : 128 + (128 * m + (c.toNat - 128)) % 128 = c.toNat := by omega
          have e3 : enc (128 * m + (c.toNat - 128)) = c :: enc m := by
            rw [enc_ge (n := 128 * m + (c.toNat - 128)) (by omega)]
            generalize 128 * m + (c.toNat - 128) = q at e1 e2 ⊢
            rw [e1, e2, UInt8.ofNat_toNat]
          rw [e3, List.cons_append]
        · rw [pow7 i, Nat.add_mul, Nat.add_assoc]
          rw [← Nat.mul_assoc, Nat.mul_comm m 128]
          generalize 128 * m * 2 ^ (7 * i) = x
          generalize (c.toNat - 128) * 2 ^ (7 * i) = y
          omega
        · have e : 8 - i = (8 - (i + 1)) + 1 := by omega
          rw [e, Nat.pow_succ]
          omega
    · rw [if_neg h1] at h
      by_cases h2 : c.toNat = 0 ∧ 0 < i
      · rw [if_pos h2] at h; simp at h
      · rw [if_neg h2] at h
        simp only [Prod.mk.injEq] at h
        obtain ⟨rfl, rfl, _⟩ := h
        refine ⟨c.toNat, by rw [enc_lt (by omega)]; simp, rfl, ?_, fun _ => by omega⟩
        have : 128 ^ 1 ≤ 128 ^ (8 - i) := Nat.pow_le_pow_right (by omega) (by omega)
        omega
theorem tk_inv0 {l : List UInt8} {v : Nat} {r : List UInt8} (h : tk l 0 0 = (v, r, 0)) : l = enc v ++ r ∧ v < 2 ^ 56 := by
  obtain ⟨m, h1, h2, h3, _⟩ := tk_inv l 0 0 v r (by omega) h
  simp at h2 h3
  subst h2
  exact ⟨h1, by omega⟩
theorem tk_err : ∀ (l : List UInt8) (i n : Nat), (tk l i n).2.2 = 0 ∨ (tk l i n = (0, [], 3)) ∨ (tk l i n = (0, [], 4))
  | [], i, n => .inr (.inl rfl)
  | c :: l, i, n => by
    rw [tk]
    split
    · split
      · exact .inr (.inr rfl)
      · exact tk_err l _ _
    · split
      · exact .inr (.inr rfl)
      · exact .inl rfl
theorem tk_le : ∀ (l : List UInt8) (i n : Nat), (tk l i n).2.1.length ≤ l.length
  | [], i, n => by simp [tk]
  | c :: l, i, n => by
    rw [tk]
    split
    · split
      · simp
      · have := tk_le l (i + 1) (n + (c.toNat - 128) * 2 ^ (7 * i))
        simp only [List.length_cons]; omega
    · split
      · simp
      · simp
theorem enc_len8 {m : Nat} (h : m < 2 ^ 56) : (enc m).length ≤ 8 := enc_len 7 m (by simpa using h)
def txt (s : List UInt8) : List UInt8 := enc s.length ++ s
def tkT (l : List UInt8) : List UInt8 × List UInt8 × Int :=
  if (tk l 0 0).2.2 ≠ 0 then ([], [], (tk l 0 0).2.2) else if (tk l 0 0).2.1.length < (tk l 0 0).1 then ([], [], 3) else ((tk l 0 0).2.1.take (tk l 0 0).1, (tk l 0 0).2.1.drop (tk l 0 0).1, 0)
theorem tkT_txt (s r : List UInt8) (h : s.length < 2 ^ 56) : tkT (txt s ++ r) = (s, r, 0) := by
  unfold tkT txt
  rw [List.append_assoc, tk_zero _ _ h]
  simp
theorem tkT_inv {l s r : List UInt8} (h : tkT l = (s, r, 0)) : l = txt s ++ r ∧ s.length < 2 ^ 56 := by
  unfold tkT at h
  by_cases h0 : (tk l 0 0).2.2 = 0
  · rw [if_neg (by simpa using h0)] at h
    by_cases h1 : (tk l 0 0).2.1.length < (tk l 0 0).1
    · rw [if_pos h1] at h; simp at h
    · rw [if_neg h1] at h
      simp only [Prod.mk.injEq, and_true] at h
      obtain ⟨hs, hr⟩ := h
      have ht : tk l 0 0 = ((tk l 0 0).1, (tk l 0 0).2.1, 0) := by rw [← h0]
      obtain ⟨hl, hv⟩ := tk_inv0 ht
      have hlen : s.length = (tk l 0 0).1 := by rw [← hs, List.length_take]; omega
      refine ⟨?_, by omega⟩
      unfold txt
      rw [hlen, ← hs, ← hr, List.append_assoc, List.take_append_drop]
      exact hl
  · rw [if_pos (by simpa using h0)] at h
    simp only [Prod.mk.injEq] at h
    exact absurd h.2.2 h0
theorem tkT_err (l : List UInt8) : (tkT l).2.2 = 0 ∨ tkT l = ([], [], 3) ∨ tkT l = ([], [], 4) := by
  unfold tkT
  rcases tk_err l 0 0 with h | h | h
  · rw [if_neg (by simpa using h)]
    split
    · exact .inr (.inl rfl)
    · exact .inl rfl
  · rw [h]; exact .inr (.inl rfl)
  · rw [h]; exact .inr (.inr rfl)
theorem tkT_le (l : List UInt8) : (tkT l).2.1.length ≤ l.length ∧ (tkT l).1.length ≤ l.length := by
  have := tk_le l 0 0
  unfold tkT
  split
  · simp
  · split
    · simp
    · simp only [List.length_take, List.length_drop]; omega
theorem txt_pre {a b r r' : List UInt8} (ha : a.length < 2 ^ 56) (hb : b.length < 2 ^ 56) (e : txt a ++ r = txt b ++ r') : a = b ∧ r = r' := by
  have h1 := tkT_txt a r ha
  rw [e, tkT_txt b r' hb] at h1
  simp only [Prod.mk.injEq] at h1
  exact ⟨h1.1.symm, h1.2.1.symm⟩
end Go.Proofs.YtpgfafpjfdbjmaaDoor
end
section
namespace Go.Proofs.YtpgfafpjfdbjmaaDoor.Q
open Go.RowKit Go.Proofs.YtpgfafpjfdbjmaaDoorW.PrintWords Go.Proofs.YtpgfafpjfdbjmaaDoorW.PrintLast Go.Proofs.YtpgfafpjfdbjmaaDoorW.PrintMore
attribute [local go_sem] max2_int min2_int max_two min_two max_three min_three max_four min_four   -- for this text's walks alone
set_option linter.unusedVariables false
set_option linter.unusedSimpArgs false
theorem eqA28 (d : Nat) (w : World) (x0 y0 : ByteArray) (x1 y1 : ByteArray) :
    (Op.equalIn (d + 2) 28 (.agg #[.string x0, .string x1]) (.agg #[.string y0, .string y1])).run Tryd.prog w = .ok (x0.toList == y0.toList && (x1.toList == y1.toList)) w := by
  refine eqA_of Tryd.underlying28 (by kernel_rfl) ?_
  refine eqf_cons (by rfl) (by go_simp; rfl) (by go_simp; rfl) (by go_simp) ?_
  exact eqf_last (by rfl) (by go_simp; rfl) (by go_simp; rfl) (by go_simp)
end Go.Proofs.YtpgfafpjfdbjmaaDoor.Q
end
section
namespace Go.Proofs.YtpgfafpjfdbjmaaDoor.Q
end Go.Proofs.YtpgfafpjfdbjmaaDoor.Q
end
section
namespace Go.Proofs.YtpgfafpjfdbjmaaDoor
open Go.RowKit Q Go.Proofs.YtpgfafpjfdbjmaaDoorW.PrintWords Go.Proofs.YtpgfafpjfdbjmaaDoorW.PrintLast Go.Proofs.YtpgfafpjfdbjmaaDoorW.PrintMore
theorem or128 : ∀ a : Fin 256, Go.bits .or .u8 (a.val : Int) 128 = ((128 + a.val % 128 : Nat) : Int) := by decide +kernel
theorem or128' (n : Nat) : Go.bits .or .u8 ((n : Int) % 256) 128 = ((128 + n % 128 : Nat) : Int) := by
  have h := or128 ⟨n % 256, Nat.mod_lt _ (by omega)⟩
  simp only at h
  rw [show ((n % 256 : Nat) : Int) = (n : Int) % 256 by omega] at h
  rw [h]
  congr 2
  omega
theorem wraps_i64 (n : Int) (h₀ : 0 ≤ n) (h₁ : n < 2 ^ 63) : IntKind.i64.wrap n = n := by rw [IntKind.wrap_i64]; omega
theorem bits_or_comm (a b : Nat) (ha : a < 2 ^ 63) (hb : b < 2 ^ 63) : Go.bits .or .i64 (a : Int) (b : Int) = Go.bits .or .i64 (b : Int) (a : Int) := by
  rw [(bits_nat .i64 63 (by decide) wraps_i64 a b ha hb).2, (bits_nat .i64 63 (by decide) wraps_i64 b a hb ha).2, Nat.or_comm]
theorem or_add (n c i : Nat) (hn : n < 2 ^ (7 * i)) (hc : c < 128) (hi : i ≤ 7) : Go.bits .or .i64 (n : Int) (shl .i64 (c : Int) (wrap64 (7 * (i : Int)))) = ((n + c * 2 ^ (7 * i) : Nat) : Int) := by
  have e : wrap64 (7 * (i : Int)) = ((7 * i : Nat) : Int) := by unfold wrap64; omega
  have hp : 2 ^ (7 * i) ≤ 2 ^ 49 := Nat.pow_le_pow_right (by omega) (by omega)
  have hcp : c * 2 ^ (7 * i) ≤ 127 * 2 ^ 49 := Nat.mul_le_mul (by omega) hp
  have h2 : shl .i64 (c : Int) (wrap64 (7 * (i : Int))) = ((c * 2 ^ (7 * i) : Nat) : Int) := by
    unfold shl
    rw [e, Int.toNat_natCast, Nat.min_eq_left (by show 7 * i ≤ 64; omega)]
    have e2 : (c : Int) * 2 ^ (7 * i) = ((c * 2 ^ (7 * i) : Nat) : Int) := by simp
    rw [e2]
    exact wraps_i64 _ (by omega) (by omega)
  rw [h2, bits_or_comm _ _ (by omega) (by omega), bits_join .i64 63 (by decide) wraps_i64 (7 * i) _ _ (by omega) ?_ (by omega) (by omega) (by exact_mod_cast hn) (by omega)]
  · omega
  · have : ((c * 2 ^ (7 * i) : Nat) : Int) = (c : Int) * 2 ^ (7 * i) := by simp
    rw [this]
    exact Int.mul_emod_left _ _
theorem bt_B (l : List UInt8) (i : Nat) : bt (B l) (i : Int) = ((l.getD i 0).toNat : Int) := by
  unfold bt
  rw [Int.toNat_natCast]
  split
  · rename_i h
    have h' : i < l.length := by rw [B_size] at h; exact h
    have e : (B l)[i]'h = l[i] := by show (B l).data[i] = _; simp [B]
    rw [e, List.getD_eq_getElem?_getD, List.getElem?_eq_getElem h']; rfl
  · rename_i h
    have h' : l.length ≤ i := by rw [B_size] at h; omega
    rw [List.getD_eq_getElem?_getD, List.getElem?_eq_none h']; rfl
def nb (l : List UInt8) : List Int := l.map fun c => (c.toNat : Int)
theorem nb_append (a b : List UInt8) : nb (a ++ b) = nb a ++ nb b := by simp [nb]
theorem strOfNums_nb (l : List UInt8) : strOfNums (nb l) = B l := by
  unfold strOfNums B nb
  rw [List.map_map]
  congr 2
  have : ((fun n : Int => UInt8.ofNat n.toNat) ∘ fun c : UInt8 => (c.toNat : Int)) = id := by
    funext c; simp
  rw [this, List.map_id]
theorem nb_one (n : Nat) (h : n < 128) : nb [UInt8.ofNat n] = [(n : Int) % 256] := by
  simp only [nb, List.map_cons, List.map_nil]
  rw [u8_toNat n (by omega), Int.emod_eq_of_lt (by omega) (by omega)]
theorem number_loop (j : Nat) : ∀ (n k : Nat) (acc : List UInt8), n < 128 ^ (j + 1) → j < k → acc.length + j ≤ 1000 → pack_Number.l0 k (n : Int) (nb acc) = some (B (acc ++ enc n)) := by
  induction j with
  | zero =>
    intro n k acc hn hk ha
    obtain ⟨k, rfl⟩ : ∃ m, k = m + 1 := ⟨k - 1, by omega⟩
    simp only [pack_Number.l0]
    have hl : (nb acc).length = acc.length := by simp [nb]
    rw [if_neg (by omega), if_pos (by omega), enc_lt (by omega)]
    have e : nb acc ++ [(n : Int) % 256] = nb (acc ++ [UInt8.ofNat n]) := by
      rw [nb_append, nb_one n (by omega)]
    rw [e, strOfNums_nb]
  | succ j ih =>
    intro n k acc hn hk ha
    obtain ⟨k, rfl⟩ : ∃ m, k = m + 1 := ⟨k - 1, by omega⟩
    have hl : (nb acc).length = acc.length := by simp [nb]
    by_cases h : n < 128
    · exact (by
        simp only [pack_Number.l0]
        rw [if_neg (by omega), if_pos (by omega), enc_lt (by omega)]
        have e : nb acc ++ [(n : Int) % 256] = nb (acc ++ [UInt8.ofNat n]) := by
          rw [nb_append, nb_one n (by omega)]
        rw [e, strOfNums_nb])
    · simp only [pack_Number.l0]
      rw [if_pos (by omega), if_pos (by omega), or128']
      have e : nb acc ++ [((128 + n % 128 : Nat) : Int)] = nb (acc ++ [UInt8.ofNat (128 + n % 128)]) := by
        rw [nb_append]
        congr 1
        simp only [nb, List.map_cons, List.map_nil]
        rw [u8_toNat _ (by omega)]
      have e2 : (n : Int) / 128 = ((n / 128 : Nat) : Int) := by omega
      rw [e, e2, ih (n / 128) k _ ?_ (by omega) (by rw [List.length_append, List.length_singleton]; omega), enc_ge (n := n) (by omega), List.append_assoc, List.singleton_append]
      · rw [Nat.pow_succ] at hn
        exact Nat.div_lt_of_lt_mul (by omega)
theorem number_f (n k : Nat) (h : n < 2 ^ 56) (hk : 20 ≤ k) : pack_Number.f k (n : Int) = some (B (enc n)) := by
  unfold pack_Number.f
  obtain ⟨k, rfl⟩ : ∃ m, k = m + 1 := ⟨k - 1, by omega⟩
  have e : decide ((n : Int) > 72057594037927935) = false := by simp; omega
  rw [if_neg (by omega), e]
  simp only [pack_Number.j0]
  rw [if_neg (by decide)]
  exact number_loop 7 n k [] (by simpa using h) (by omega) (by simp)
theorem text_f (s : List UInt8) (k : Nat) (h : s.length ≤ 140737488355328) (hk : 20 ≤ k) : pack_Text.f k (B s) = some (B (txt s)) := by
  unfold pack_Text.f
  rw [B_size, number_f s.length k (by omega) hk]
  simp only [Option.bind_some]
  have := enc_len8 (m := s.length) (by omega)
  rw [if_pos (by rw [B_size]; omega), B_append]
  rfl
theorem wrap7 (i : Nat) (hi : i ≤ 7) : wrap64 (7 * (i : Int)) = ((7 * i : Nat) : Int) := by unfold wrap64; omega
theorem wrap_succ (i : Nat) (hi : i ≤ 140737488355328) : wrap64 ((i : Int) + 1) = ((i + 1 : Nat) : Int) := by unfold wrap64; omega
theorem wrap_small (i : Nat) (hi : i ≤ 140737488355328) : wrap64 (i : Int) = (i : Int) := by unfold wrap64; omega
theorem rnum_end (l : List UInt8) (_hl : l.length ≤ 140737488355328) (i n c : Nat) (hi : i ≤ 7) (hil : i < l.length) (hn : n < 2 ^ (7 * i)) (hc : c < 128) :
    (if 0 ≤ wrap64 ((i : Int) + 1) then (if wrap64 ((i : Int) + 1) ≤ ((B l).size : Int) then (if 0 ≤ wrap64 (7 * (i : Int)) then (some (Go.bits .or .i64 (n : Int) (shl .i64 (wrap64 (c : Int)) (wrap64 (7 * (i : Int)))), (B l).extract (wrap64 ((i : Int) + 1)).toNat (B l).size, (0 : Int))) else none) else none) else none) = some (((n + c * 2 ^ (7 * i) : Nat) : Int), B (l.drop (i + 1)), (0 : Int)) := by
  rw [wrap_small c (by omega), or_add n c i hn hc hi, wrap_succ i (by omega), if_pos (by omega), if_pos (by rw [B_size]; omega), if_pos (by rw [wrap7 i hi]; omega), Int.toNat_natCast, B_size, B_extract, List.take_of_length_le (by rw [List.length_drop]; omega)]
theorem rnum_loop (l : List UInt8) (hl : l.length ≤ 140737488355328) (d : Nat) : ∀ (k i n : Nat), 8 - i = d → i ≤ 7 → i ≤ l.length → n < 2 ^ (7 * i) → d < k →
    pack_Reader_Number.l0 k (n : Int) (l.length : Int) (i : Int) (B l) 0 = some (((tk (l.drop i) i n).1 : Int), B (tk (l.drop i) i n).2.1, (tk (l.drop i) i n).2.2) := by
  induction d with
  | zero => intro k i n hd hi; omega
  | succ d ih =>
    intro k i n hd hi hil hn hk
    obtain ⟨k, rfl⟩ : ∃ m, k = m + 1 := ⟨k - 1, by omega⟩
    simp only [pack_Reader_Number.l0]
    by_cases h1 : i < l.length
    · rw [if_pos (by omega), if_pos (by omega), if_pos (by rw [B_size]; omega), bt_B]
      have hc : l.drop i = l.getD i 0 :: l.drop (i + 1) := by
        rw [List.drop_eq_getElem_cons h1, List.getD_eq_getElem?_getD, List.getElem?_eq_getElem h1]; rfl
      rw [hc]
      generalize l.getD i 0 = c
      have hc8 := c.toNat_lt
      have e7 : wrap64 (7 * (i : Int)) = ((7 * i : Nat) : Int) := by unfold wrap64; omega
      have e1 : wrap64 ((i : Int) + 1) = ((i + 1 : Nat) : Int) := by unfold wrap64; omega
      by_cases h128 : 128 ≤ c.toNat
      · rw [if_pos (by omega)]
        by_cases h7 : i = 7
        · rw [if_pos (by omega)]
          have : tk (c :: l.drop (i + 1)) i n = (0, [], 4) := by rw [tk, if_pos h128, if_pos h7]
          rw [this]
          rfl
        · rw [if_neg (by omega), if_pos (by rw [e7]; omega)]
          have e3 : ((c.toNat : Int) - 128) % 256 = ((c.toNat - 128 : Nat) : Int) := by omega
          rw [e3, or_add n (c.toNat - 128) i hn (by omega) hi, e1]
          have e4 : tk (c :: l.drop (i + 1)) i n = tk (l.drop (i + 1)) (i + 1) (n + (c.toNat - 128) * 2 ^ (7 * i)) := by rw [tk, if_pos h128, if_neg h7]
          rw [e4]
          refine ih k (i + 1) _ (by omega) (by omega) (by omega) ?_ (by omega)
          rw [pow7 i]
          have : (c.toNat - 128) * 2 ^ (7 * i) ≤ 127 * 2 ^ (7 * i) := Nat.mul_le_mul_right _ (by omega)
          omega
      · rw [if_neg (by omega)]
        have hsh : pack_Reader_wrong.f (B l) 0 4 = some (⟨#[]⟩, 4) := rfl
        have hend := rnum_end l hl i n c.toNat hi h1 hn (by omega)
        by_cases h0 : c.toNat = 0
        · rw [if_pos (by omega)]
          by_cases hi0 : 0 < i
          · rw [if_pos (by omega)]
            have : tk (c :: l.drop (i + 1)) i n = (0, [], 4) := by rw [tk, if_neg h128, if_pos ⟨h0, hi0⟩]
            rw [this]
            rfl
          · rw [if_neg (by omega), hend]
            have : tk (c :: l.drop (i + 1)) i n = (n + c.toNat * 2 ^ (7 * i), l.drop (i + 1), 0) := by rw [tk, if_neg h128, if_neg (by omega)]
            rw [this]
        · rw [if_neg (by omega), hend]
          have : tk (c :: l.drop (i + 1)) i n = (n + c.toNat * 2 ^ (7 * i), l.drop (i + 1), 0) := by rw [tk, if_neg h128, if_neg (by omega)]
          rw [this]
    · rw [if_neg (by omega), List.drop_eq_nil_of_le (by omega)]
      rfl
theorem rnum_f (l : List UInt8) (k : Nat) (hl : l.length ≤ 140737488355328) (hk : 20 ≤ k) : pack_Reader_Number.f k (B l) 0 = some (((tk l 0 0).1 : Int), B (tk l 0 0).2.1, (tk l 0 0).2.2) := by
  unfold pack_Reader_Number.f pack_Reader_works.f
  simp only [Option.bind_some]
  rw [if_pos (by rfl), B_size]
  exact rnum_loop l hl 8 k 0 0 rfl (by omega) (by omega) (by simp) (by omega)
theorem rnum_err (s : ByteArray) (e : Int) (k : Nat) (he : e ≠ 0) : pack_Reader_Number.f k s e = some (0, s, e) := by
  unfold pack_Reader_Number.f pack_Reader_works.f
  simp only [Option.bind_some]
  rw [if_neg (by simpa using he)]
theorem rtext_f (l : List UInt8) (k : Nat) (hl : l.length ≤ 140737488355328) (hk : 21 ≤ k) : pack_Reader_Text.f k (B l) 0 = some (B (tkT l).1, B (tkT l).2.1, (tkT l).2.2) := by
  obtain ⟨k, rfl⟩ : ∃ m, k = m + 1 := ⟨k - 1, by omega⟩
  have hle := tk_le l 0 0
  have herr := tk_err l 0 0
  unfold pack_Reader_Text.f
  rw [rnum_f l _ hl (by omega)]
  unfold tkT
  generalize tk l 0 0 = t at hle herr ⊢
  obtain ⟨n, r, e⟩ := t
  simp only [Option.bind_some, pack_Reader_works.f] at *
  by_cases h0 : e = 0
  · subst h0
    rw [if_pos (by rfl), if_neg (by simp)]
    rw [B_size]
    by_cases h1 : r.length < n
    · have hd : decide ((n : Int) > (r.length : Int)) = true := by simp; omega
      rw [hd, if_pos h1]
      simp only [pack_Reader_Text.j0, pack_Reader_wrong.f, pack_Reader_works.f, Option.bind_some]
      rw [if_pos trivial, if_neg (by decide)]
      rfl
    · have hd : decide ((n : Int) > (r.length : Int)) = false := by simp; omega
      rw [hd, if_neg h1]
      simp only [pack_Reader_Text.j0, pack_Reader_wrong.f, pack_Reader_works.f, Option.bind_some]
      rw [if_neg (by decide), if_pos (by decide), if_pos (by omega), if_pos (by rw [B_size]; omega), Int.toNat_natCast, B_size, B_extract, B_extract, List.drop_zero, Nat.sub_zero, List.take_of_length_le (l := r.drop n) (by rw [List.length_drop]; omega)]
  · rw [if_neg (by simpa using h0), if_pos h0]
    simp only [pack_Reader_Text.j0, pack_Reader_wrong.f, pack_Reader_works.f, Option.bind_some]
    rw [if_neg (by decide), if_neg (by simpa using h0)]
    rcases herr with h | h | h
    · exact absurd h h0
    · simp only [Prod.mk.injEq] at h
      obtain ⟨_, rfl, rfl⟩ := h
      rfl
    · simp only [Prod.mk.injEq] at h
      obtain ⟨_, rfl, rfl⟩ := h
      rfl
theorem rtext_err (s : ByteArray) (e : Int) (k : Nat) (he : e ≠ 0) (hk : 1 ≤ k) : pack_Reader_Text.f k s e = some (⟨#[]⟩, s, e) := by
  obtain ⟨k, rfl⟩ : ∃ m, k = m + 1 := ⟨k - 1, by omega⟩
  unfold pack_Reader_Text.f
  rw [rnum_err s e _ he]
  simp only [Option.bind_some, pack_Reader_works.f]
  rw [if_neg (by simpa using he)]
  simp only [pack_Reader_Text.j0, pack_Reader_wrong.f, pack_Reader_works.f, Option.bind_some]
  rw [if_neg (by decide), if_neg (by simpa using he)]
end Go.Proofs.YtpgfafpjfdbjmaaDoor
end
section
namespace Go.Proofs.YtpgfafpjfdbjmaaDoor
open Go.RowKit Go.Proofs.YtpgfafpjfdbjmaaDoorW.PrintWords
def Blk (w : World) (g : Nat) (c : Array Value) (T : TypeId) : Prop := w.heap[g]? = some (.cells c T (0, 0))
theorem Blk.lt {w : World} {g : Nat} {c : Array Value} {T : TypeId} (h : Blk w g c T) : g < w.heap.size := (Array.getElem?_eq_some_iff.1 h).1
theorem Blk.cell {w : World} {g : Nat} {c : Array Value} {T : TypeId} (h : Blk w g c T) {i : Nat} {v : Value} (hi : c[i]? = some v) : w.cell? ⟨g, i, none⟩ = some v := by rw [Lib.cell_of_heap h]; exact hi
theorem Blk.free {w : World} {g : Nat} {c : Array Value} {T : TypeId} (h : Blk w g c T) (i : Nat) : w.frozen? ⟨g, i, none⟩ = false := Lib.frozen_of_heap h i
theorem Blk.set {w : World} {g : Nat} {c : Array Value} {T : TypeId} (h : Blk w g c T) (i : Nat) (v : Value) : Blk (w.setCell ⟨g, i, none⟩ v) g (c.setIfInBounds i v) T := by
  have : w.heap[g]? = _ := h
  simp [Blk, World.setCell, Array.getElem?_modify, this]
theorem Blk.other {w : World} {g g' : Nat} {c : Array Value} {T : TypeId} (h : Blk w g c T) (hne : g ≠ g') (i : Nat) (v : Value) : Blk (w.setCell ⟨g', i, none⟩ v) g c T := (Below.heap_setCell _ _ _ _ (fun e => hne e)).trans h
theorem Blk.keep {w w' : World} {g : Nat} {c : Array Value} {T : TypeId} (h : Blk w g c T) (hb : Below w.heap.size w w') : Blk w' g c T := (hb.block g h.lt).trans h
theorem Blk.alloc {w : World} {g : Nat} {c : Array Value} {T : TypeId} (h : Blk w g c T) (o : Obj) : Blk (w.alloc o) g c T := (Lib.alloc_old w o g h.lt).trans h
theorem Blk.new (w : World) (c : Array Value) (T : TypeId) : Blk (w.alloc (.cells c T)) w.heap.size c T := heap_alloc_new w _
end Go.Proofs.YtpgfafpjfdbjmaaDoor
end
section
namespace Go.Proofs.YtpgfafpjfdbjmaaDoor
open Go.RowKit Q Go.Proofs.YtpgfafpjfdbjmaaDoorW.PrintWords Go.Proofs.YtpgfafpjfdbjmaaDoorW.PrintLast Go.Proofs.YtpgfafpjfdbjmaaDoorW.PrintMore
def plainB (c : UInt8) : Bool := decide (33 ≤ c.toNat) && decide (c.toNat ≤ 126)
theorem plain_not (n : Nat) : (decide (33 ≤ n) && decide (n ≤ 126)) = !(decide ((n : Int) < 33) || decide (126 < (n : Int))) := by
  rw [Bool.eq_iff_iff]
  simp
  omega
theorem decode_big (s : ByteArray) (i : Nat) (h : 128 ≤ (s.get! i).toNat) : 126 < (Utf8.decode s i).1 := by
  unfold Utf8.decode
  simp only [Nat.add_zero]
  rw [if_neg (by omega)]
  unfold Utf8.runeError
  split
  · split
    · rename_i h1; simp only; omega
    · decide
  · split
    · split
      · rename_i h1; simp only; simp at h1; omega
      · decide
    · split
      · split
        · rename_i h1; simp only; simp at h1; omega
        · decide
      · decide
theorem decode_small (s : ByteArray) (i : Nat) (h : (s.get! i).toNat < 128) : Utf8.decode s i = ((s.get! i).toNat, 1) := by
  unfold Utf8.decode
  simp only [Nat.add_zero]
  rw [if_pos h]
theorem get_B (l : List UInt8) (i : Nat) (h : i < l.length) : (B l).get! i = l[i] := by
  simp [ByteArray.get!, B, h]
set_option maxRecDepth 100000 in
theorem clos_calls (r : Int) (w : World) : Calls Tryd.prog 32 #[.int .i32 r] w fun e w' => e = .returned (.bool (decide (r < 33) || decide (126 < r))) ∧ Below w.heap.size w w' := by
  by_cases h1 : r < 33
  · go_enter Tryd.func32, Tryd.ntmps32
    go_wp2_with fail
    go_ret
    exact ⟨by simp [h1], Below.refl _ _⟩
  · by_cases h2 : 126 < r
    · go_enter Tryd.func32, Tryd.ntmps32
      go_wp2_with fail
      go_ret
      exact ⟨by simp, Below.refl _ _⟩
    · go_enter Tryd.func32, Tryd.ntmps32
      go_wp2_with fail
      go_ret
      exact ⟨by simp [h1, h2], Below.refl _ _⟩
set_option maxHeartbeats 2000000 in
set_option maxRecDepth 100000 in
theorem idx_calls (l : List UInt8) (w : World) : Calls Tryd.prog 51 #[.string (B l), .func (.func 32) #[] #[], .bool true] w fun e w' => ∃ r : Int, e = .returned (.int .i64 r) ∧ (decide (r < 0) = l.all plainB) ∧ Below w.heap.size w w' := by
  go_enter Tryd.func51, Tryd.ntmps51
  go_wp2_with fail
  go_loopg [] l.length (fun gf wx => ∃ pos : Nat, wx.heap[w.heap.size]? = some (.stringIter (B l) pos) ∧ Below w.heap.size w wx ∧ (l.take pos).all plainB = true ∧ pos + gf = l.length)
  case atStart => exact ⟨0, World.iter_heap w (B l) 0, (Below.refl _ w).alloc (Nat.le_refl _) _, rfl, by omega⟩
  case round =>
    obtain ⟨pos, hit, hbw, hall, hfu⟩ := hrel
    by_cases hps : pos < l.length
    · obtain ⟨g', rfl⟩ : ∃ g', gk = g' + 1 := ⟨gk - 1, by omega⟩
      have hps' : pos < (B l).size := by rw [B_size]; exact hps
      have hnx : ∀ ty, (Instr.next (.pointer (some ⟨w.heap.size, 0, none⟩)) true ty).run Tryd.prog wr = _ := fun ty => Lib.run_next_any_at wr w.heap.size (B l) pos ty hit hps'
      have hg := get_B l pos hps
      have htk : l.take (pos + 1) = l.take pos ++ [l[pos]] := by rw [List.take_add_one, List.getElem?_eq_getElem hps]; rfl
      have hdr : l = l.take pos ++ l[pos] :: l.drop (pos + 1) := by
        conv => lhs; rw [← List.take_append_drop pos l, List.drop_eq_getElem_cons hps]
        rfl
      by_cases hbig : 128 ≤ l[pos].toNat
      · have hd := decode_big (B l) pos (by rw [hg]; exact hbig)
        have hno : l.all plainB = false := by
          rw [hdr, List.all_append, List.all_cons]
          have : plainB l[pos] = false := by simp [plainB]; omega
          simp [this]
        obtain ⟨R, hR⟩ : ∃ R, (Utf8.decode (B l) pos).1 = R := ⟨_, rfl⟩
        obtain ⟨K, hK⟩ : ∃ K, (Utf8.decode (B l) pos).2 = K := ⟨_, rfl⟩
        rw [hR, hK] at hnx
        rw [hR] at hd
        have hbw2 := Lib.below_iterAt hbw (k := w.heap.size) (Nat.le_refl _) (B l) (pos + K)
        obtain ⟨W, hWd⟩ : ∃ W, wr.iterAt w.heap.size (B l) (pos + K) = W := ⟨_, rfl⟩
        rw [hWd] at hnx hbw2
        have cS := clos_calls (R : Int) W
        rw [show (decide ((R : Int) < 33) || decide (126 < (R : Int))) = true from by simp; omega] at cS
        clear hg htk hdr hit hbw hall hR hK hWd hd
        go_wp2_with fail
        refine cS.mono ?_
        rintro e W' ⟨rfl, b1⟩
        go_wp2_with fail
        go_ret
        exact ⟨pos, rfl, by rw [hno]; simp, below2 hbw2 hbw2.size b1⟩
      · have hd := decode_small (B l) pos (by rw [hg]; omega)
        rw [hg] at hd
        rw [hd] at hnx
        have hit2 := Lib.iterAt_heap wr w.heap.size (B l) pos (pos + 1) hit
        have hbw2 := Lib.below_iterAt hbw (k := w.heap.size) (Nat.le_refl _) (B l) (pos + 1)
        obtain ⟨W, hWd⟩ : ∃ W, wr.iterAt w.heap.size (B l) (pos + 1) = W := ⟨_, rfl⟩
        rw [hWd] at hnx hbw2 hit2
        have hp : plainB l[pos] = !(decide ((l[pos].toNat : Int) < 33) || decide (126 < (l[pos].toNat : Int))) := by
          exact plain_not _
        have cS := clos_calls (l[pos].toNat : Int) W
        generalize (decide ((l[pos].toNat : Int) < 33) || decide (126 < (l[pos].toNat : Int))) = q at cS hp
        cases q
        · have hall2 : (l.take (pos + 1)).all plainB = true := by rw [htk, List.all_append, hall]; simp [hp]
          generalize l[pos].toNat = R at hnx cS
          clear hg htk hdr hit hbw hall hWd hd hp
          go_wp2_with fail
          refine cS.mono ?_
          rintro e W' ⟨rfl, b1⟩
          go_wp2_with fail
          go_roundg g'
          case measure => omega
          case rel => exact ⟨pos + 1, (b1.block _ (Array.getElem?_eq_some_iff.1 hit2).1).trans hit2, below2 hbw2 hbw2.size b1, hall2, by omega⟩
        · have hno : l.all plainB = false := by
            rw [hdr, List.all_append, List.all_cons]
            simp [hp]
          generalize l[pos].toNat = R at hnx cS
          clear hg htk hdr hit hbw hall hWd hd hp
          go_wp2_with fail
          refine cS.mono ?_
          rintro e W' ⟨rfl, b1⟩
          go_wp2_with fail
          go_ret
          exact ⟨pos, rfl, by rw [hno]; simp, below2 hbw2 hbw2.size b1⟩
    · have hnx : ∀ ty, (Instr.next (.pointer (some ⟨w.heap.size, 0, none⟩)) true ty).run Tryd.prog wr = _ := fun ty => Lib.run_next_end_at wr w.heap.size (B l) pos ty hit (by rw [B_size]; exact hps)
      have hall2 : l.all plainB = true := by rw [← hall, List.take_of_length_le (by omega)]
      clear hall
      go_wp2_with fail
      go_ret
      exact ⟨-1, rfl, by rw [hall2]; rfl, hbw⟩
theorem idxf_calls (l : List UInt8) (w : World) : Calls Tryd.prog 31 #[.string (B l), .func (.func 32) #[] #[]] w fun e w' => ∃ r : Int, e = .returned (.int .i64 r) ∧ (decide (r < 0) = l.all plainB) ∧ Below w.heap.size w w' := by
  go_enter Tryd.func31, Tryd.ntmps31
  go_wp2_with fail
  refine (idx_calls l _).mono ?_
  rintro e w' ⟨r, rfl, hr, hb⟩
  go_wp2_with fail
  go_ret
  exact ⟨r, rfl, hr, hb⟩
def chkN (k v : List UInt8) : Int := if k = [] ∨ 32 < k.length ∨ k.all plainB = false then 11 else if 384 < (txt k).length + (txt v).length + 32 then 12 else 0
theorem txt_le (s : List UInt8) (h : s.length ≤ 140737488355328) : (txt s).length ≤ s.length + 8 := by
  unfold txt
  rw [List.length_append]
  have := enc_len8 (m := s.length) (by omega)
  omega
theorem text_L (s : List UInt8) (w : World) (h : s.length ≤ 140737488355328) : Calls Tryd.prog 28 #[.string (B s)] w fun e w' => e = .returned (.string (B (txt s))) ∧ Below w.heap.size w w' :=
  pack_Text.calls 20 _ _ w (text_f s 20 h (Nat.le_refl _))
theorem sum32 (a b : Nat) (ha : a ≤ 140737488355336) (hb : b ≤ 140737488355336) : wrap64 (wrap64 ((a : Int) + b) + 32) = ((a + b + 32 : Nat) : Int) := by
  unfold wrap64; omega
set_option maxHeartbeats 2000000 in
set_option maxRecDepth 100000 in
theorem nchk_calls (k v : List UInt8) (hv : v.length ≤ 140737488355328) (w : World) : Calls Tryd.prog 13 #[.agg #[.string (B k), .string (B v)]] w fun e w' => e = .returned (.int .i64 (chkN k v)) ∧ Below w.heap.size w w' := by
  have HB : Aside0 (Below w.heap.size w (w.alloc (.cells #[.string (B k), .string (B v)] 28))) := ⟨below_alloc (Below.refl _ _) _⟩
  have HH : Aside0 (Blk (w.alloc (.cells #[.string (B k), .string (B v)] 28)) w.heap.size #[.string (B k), .string (B v)] 28) := ⟨Blk.new _ _ _⟩
  have hu := Tryd.underlying28
  by_cases h0 : k = []
  · subst h0
    have HM : chkN [] v = 11 := by unfold chkN; rw [if_pos (.inl rfl)]
    rw [HM]
    have hb : (B []).toList = [] := B_toList []
    clear HM
    go_enter Tryd.func13, Tryd.ntmps13
    go_wp2_with fail
    refine (idxf_calls [] _).mono ?_
    rintro e w1 ⟨r, rfl, hr, b1⟩
    replace HH := Aside0.mk (HH.out.keep b1)
    replace HB := Aside0.mk (below2 HB.out HB.out.size b1)
    clear b1 hr
    have d0 := HH.out.cell (i := 0) (v := .string (B [])) rfl
    go_wp2_with fail
    go_ret
    exact ⟨rfl, HB.out⟩
  · have hb : ((B k).toList == []) = false := by rw [B_toList]; simpa using h0
    by_cases h1 : 32 < k.length
    · have HM : chkN k v = 11 := by unfold chkN; rw [if_pos (.inr (.inl h1))]
      rw [HM]
      have h1' : ((B k).size : Int) > 32 := by rw [B_size]; omega
      clear h0 HM h1
      go_enter Tryd.func13, Tryd.ntmps13
      go_wp2_with fail
      refine (idxf_calls k _).mono ?_
      rintro e w1 ⟨r, rfl, hr, b1⟩
      replace HH := Aside0.mk (HH.out.keep b1)
      replace HB := Aside0.mk (below2 HB.out HB.out.size b1)
      clear b1 hr
      have d0 := HH.out.cell (i := 0) (v := .string (B k)) rfl
      go_wp2_with fail
      go_ret
      exact ⟨rfl, HB.out⟩
    · have h1' : ¬ ((B k).size : Int) > 32 := by rw [B_size]; omega
      cases hq : k.all plainB with
      | false =>
        have HM : chkN k v = 11 := by unfold chkN; rw [if_pos (.inr (.inr hq))]
        rw [HM]
        clear h0 HM h1
        go_enter Tryd.func13, Tryd.ntmps13
        go_wp2_with fail
        refine (idxf_calls k _).mono ?_
        rintro e w1 ⟨r, rfl, hr, b1⟩
        replace HH := Aside0.mk (HH.out.keep b1)
        replace HB := Aside0.mk (below2 HB.out HB.out.size b1)
        have hr3 : decide (r < 0) = false := by rw [hq] at hr; exact hr
        have hz1 : decide (32 < ((B k).size : Int)) = false := decide_eq_false (by omega)
        clear b1 hr
        have d0 := HH.out.cell (i := 0) (v := .string (B k)) rfl
        go_wp2_with fail
        go_ret
        exact ⟨rfl, HB.out⟩
      | true =>
        have hkl : k.length ≤ 32 := by omega
        have HM : chkN k v = if 384 < (txt k).length + (txt v).length + 32 then 12 else 0 := by
          unfold chkN
          rw [if_neg]
          rintro (h | h | h)
          · exact h0 h
          · exact h1 h
          · rw [hq] at h; cases h
        obtain ⟨z, hz⟩ : ∃ z : Int, chkN k v = z := ⟨_, rfl⟩
        rw [hz]
        rw [HM] at hz
        have HZ := Lib.hid hz
        clear hz
        have hs := sum32 (txt k).length (txt v).length (by have := txt_le k (by omega); omega) (by have := txt_le v hv; omega)
        have HK := Lib.hid hkl
        have HVV := Lib.hid hv
        clear h0 HM h1 hkl hv
        go_enter Tryd.func13, Tryd.ntmps13
        go_wp2_with fail
        refine (idxf_calls k _).mono ?_
        rintro e w1 ⟨r, rfl, hr, b1⟩
        replace HH := Aside0.mk (HH.out.keep b1)
        replace HB := Aside0.mk (below2 HB.out HB.out.size b1)
        have hr2 : r < 0 := by rw [hq] at hr; simpa using hr
        clear b1 hr hq
        have hr3 : decide (r < 0) = true := decide_eq_true hr2
        have hz1 : decide (32 < ((B k).size : Int)) = false := decide_eq_false (by omega)
        have d0 := HH.out.cell (i := 0) (v := .string (B k)) rfl
        have d1 := HH.out.cell (i := 1) (v := .string (B v)) rfl
        have hH := HH.out.lt
        go_wp2_with fail
        refine region_below_tail 11 (by kernel_rfl) (by kernel_rfl) ?_
        simp only [List.take_succ_cons, List.take_zero, List.drop_succ_cons, List.drop_zero]
        repeat (first | go_big_quiet_step (fail) | (refine BigFrame.wpQuiet_want (by rfl) (fun K hK => ?_); go_big_quiet_op; refine ⟨_, fun _ _ => rfl, hK _ ?_⟩; clear hK K) | (refine q_ld 9 _ _ _ _ rfl rfl rfl rfl (ld_str _ _) (by assumption) (by assumption) ?_; simp only [Act.put, List.setIfInBounds_toArray, List.set_cons_zero, List.set_cons_succ]) | (refine q_go (f := 28) Tryd.func28 (by kernel_rfl) rfl #[.string (B k)] _ _ rfl rfl rfl (by simp only [List.map_toArray, List.map_cons, List.map_nil]; rfl) (fun w' _ => text_L k w' (Nat.le_trans HK.out (by decide))) ?_; simp only [Act.put, List.setIfInBounds_toArray, List.set_cons_zero, List.set_cons_succ]) | (refine q_go (f := 28) Tryd.func28 (by kernel_rfl) rfl #[.string (B v)] _ _ rfl rfl rfl (by simp only [List.map_toArray, List.map_cons, List.map_nil]; rfl) (fun w' _ => text_L v w' HVV.out) ?_; simp only [Act.put, List.setIfInBounds_toArray, List.set_cons_zero, List.set_cons_succ]))
        refine wpQuiet_nil ?_
        intro wn hw'
        replace HB := Aside0.mk (below2 HB.out HB.out.size hw')
        by_cases hc : 384 < (txt k).length + (txt v).length + 32
        · have hc2 : 384 < wrap64 (wrap64 (((B (txt k)).size : Int) + ((B (txt v)).size : Int)) + 32) := by rw [B_size, B_size, hs]; omega
          have hz2 := HZ.out
          rw [if_pos hc] at hz2
          subst hz2
          clear HZ
          go_wp2_with fail
          go_ret
          exact ⟨rfl, HB.out⟩
        · have hc2 : ¬ 384 < wrap64 (wrap64 (((B (txt k)).size : Int) + ((B (txt v)).size : Int)) + 32) := by rw [B_size, B_size, hs]; omega
          have hz2 := HZ.out
          rw [if_neg hc] at hz2
          subst hz2
          clear HZ
          go_wp2_with fail
          go_ret
          exact ⟨rfl, HB.out⟩
def needle_Check.f (a0_0 a0_1 : ByteArray) : Option Int := if a0_1.size ≤ 140737488355328 then some (chkN a0_0.data.toList a0_1.data.toList) else none
theorem needle_Check.calls (a0_0 a0_1 : ByteArray) (r : Int) (w : World) (h : needle_Check.f a0_0 a0_1 = some r) :
    Calls Tryd.prog 13 #[.agg #[.string a0_0, .string a0_1]] w fun e w' => e = .returned (.int .i64 r) ∧ Below w.heap.size w w' := by
  unfold needle_Check.f at h
  split at h
  · rename_i hs
    have e := Option.some.inj h
    have := nchk_calls a0_0.data.toList a0_1.data.toList (by rw [size_data]; exact hs) w
    rw [e, B_eta, B_eta] at this
    exact this
  · cases h
end Go.Proofs.YtpgfafpjfdbjmaaDoor
end
section
namespace Go.Proofs.YtpgfafpjfdbjmaaDoor.Q
open Go.RowKit Go.Proofs.YtpgfafpjfdbjmaaDoorW.PrintWords Go.Proofs.YtpgfafpjfdbjmaaDoorW.PrintLast Go.Proofs.YtpgfafpjfdbjmaaDoorW.PrintMore
attribute [local go_sem] max2_int min2_int max_two min_two max_three min_three max_four min_four   -- for this text's walks alone
set_option linter.unusedVariables false
set_option linter.unusedSimpArgs false
def needle_Write.f (k : Nat) (a0_0 : ByteArray) (a0_1 : ByteArray) : Option (ByteArray × Int) := (needle_Check.f a0_0 a0_1).bind fun t109 => (if t109 = 0 then ((pack_Text.f k a0_0).bind fun t110 => ((pack_Text.f k a0_1).bind fun t111 => (if t110.size + t111.size ≤ 9223372036854775807 then ((digest_Sum.f a0_1).bind fun t112 => (if (t110 ++ t111).size + t112.size ≤ 9223372036854775807 then (some ((t110 ++ t111) ++ t112, 0)) else (none))) else (none)))) else (some ((⟨#[]⟩ : ByteArray), t109)))
def needle_Write.T4 : Bool × List (List Nat × List Nat) := (true, [([], []), ([0], [0]), ([1], [1]), ([], []), ([3], [3]), ([4, 2], [4]), ([2, 5], [2, 5]), ([], []), ([7], [7]), ([8, 5], [8]), ([6, 9], [6, 9]), ([10, 9, 0, 1, 2, 3, 4, 5, 6, 7, 8, 9, 10], [10]), ([11, 0, 1, 2, 3, 4, 5, 6, 7, 8, 9, 10, 11], [])])
def needle_Write.B4 : List Nat := [0, 1, 3, 0, 8, 31, 63, 0, 128, 447, 1023, 2047, 4095]
theorem needle_Write.tab4 : rtab .any (opsOf Tryd.f10 4) = needle_Write.T4 := by kernel_rfl
theorem needle_Write.bits4 : waitsOk needle_Write.T4.2 needle_Write.B4 = true := by kernel_rfl
set_option maxHeartbeats 8000000 in
set_option maxRecDepth 100000 in
theorem needle_Write.calls (k : Nat) (a0_0 : ByteArray) (a0_1 : ByteArray) (r1 : ByteArray) (r2 : Int) (w : World) (h : needle_Write.f k a0_0 a0_1 = some (r1, r2)) :
    Calls Tryd.prog 10 #[.agg #[.string a0_0, .string a0_1]] w fun e w' => e = .returned (.tuple #[.string r1, .int .i64 r2]) ∧ Below w.heap.size w w' := by
  have hu28 := Tryd.underlying28
  have HB := Aside0.mk (Below.refl w.heap.size w)
  have H : ((needle_Check.f a0_0 a0_1).bind fun t109 => (if t109 = 0 then ((pack_Text.f k a0_0).bind fun t110 => ((pack_Text.f k a0_1).bind fun t111 => (if t110.size + t111.size ≤ 9223372036854775807 then ((digest_Sum.f a0_1).bind fun t112 => (if (t110 ++ t111).size + t112.size ≤ 9223372036854775807 then (some ((t110 ++ t111) ++ t112, 0)) else (none))) else (none)))) else (some ((⟨#[]⟩ : ByteArray), t109)))) = some (r1, r2) := h
  clear h
  replace H := Option.bind_eq_some_iff.mp H
  obtain ⟨t109, A20, H⟩ := H
  replace H : (if t109 = 0 then ((pack_Text.f k a0_0).bind fun t110 => ((pack_Text.f k a0_1).bind fun t111 => (if t110.size + t111.size ≤ 9223372036854775807 then ((digest_Sum.f a0_1).bind fun t112 => (if (t110 ++ t111).size + t112.size ≤ 9223372036854775807 then (some ((t110 ++ t111) ++ t112, 0)) else (none))) else (none)))) else (some ((⟨#[]⟩ : ByteArray), t109))) = some (r1, r2) := H
  have A2 := Aside0.mk A20
  clear A20
  by_cases c3 : t109 = 0
  · rw [if_pos c3] at H
    have c3b0 : (t109 == 0) = true := beq_iff_eq.mpr c3
    have c3b1 : (t109 != 0) = false := bne_eq_false_iff_eq.mpr c3
    clear c3
    replace H := Option.bind_eq_some_iff.mp H
    obtain ⟨t110, A40, H⟩ := H
    replace H : ((pack_Text.f k a0_1).bind fun t111 => (if t110.size + t111.size ≤ 9223372036854775807 then ((digest_Sum.f a0_1).bind fun t112 => (if (t110 ++ t111).size + t112.size ≤ 9223372036854775807 then (some ((t110 ++ t111) ++ t112, 0)) else (none))) else (none))) = some (r1, r2) := H
    have A4 := Aside0.mk A40
    clear A40
    replace H := Option.bind_eq_some_iff.mp H
    obtain ⟨t111, A50, H⟩ := H
    replace H : (if t110.size + t111.size ≤ 9223372036854775807 then ((digest_Sum.f a0_1).bind fun t112 => (if (t110 ++ t111).size + t112.size ≤ 9223372036854775807 then (some ((t110 ++ t111) ++ t112, 0)) else (none))) else (none)) = some (r1, r2) := H
    have A5 := Aside0.mk A50
    clear A50
    by_cases c6 : t110.size + t111.size ≤ 9223372036854775807
    · rw [if_pos c6] at H
      have c6b0 := eq_true c6
      have c6b1 : decide (t110.size + t111.size ≤ 9223372036854775807) = true := decide_eq_true c6
      try have c6b2 : (9223372036854775807 < t110.size + t111.size) = False := eq_false (Nat.not_lt.2 c6)
      replace H := Option.bind_eq_some_iff.mp H
      obtain ⟨t112, A70, H⟩ := H
      replace H : (if (t110 ++ t111).size + t112.size ≤ 9223372036854775807 then (some ((t110 ++ t111) ++ t112, 0)) else (none)) = some (r1, r2) := H
      have A7 := Aside0.mk A70
      clear A70
      by_cases c8 : (t110 ++ t111).size + t112.size ≤ 9223372036854775807
      · rw [if_pos c8] at H
        have c8b0 := eq_true c8
        have c8b1 : decide ((t110 ++ t111).size + t112.size ≤ 9223372036854775807) = true := decide_eq_true c8
        try have c8b2 : (9223372036854775807 < (t110 ++ t111).size + t112.size) = False := eq_false (Nat.not_lt.2 c8)
        have c8b9 := c8b2
        simp only [ByteArray.size_append] at c8b9
        simp only [Option.some.injEq, Prod.mk.injEq] at H
        obtain ⟨rfl, rfl⟩ := H
        go_enter Tryd.func10, Tryd.ntmps10
        try go_wp2_with (first | ((with_reducible refine gate_dst (N := 1) rfl ?_); refine box_event ?hg (N := 1) ?hd (cs := #[.string a0_0, .string a0_1]) (t := 28) ?hr ?_; (case hd => rfl); (case hg => rfl); (case hr => first | (go_simp; done) | (go_simp; rfl)); intro gb108 hg w9 hbox hb; have n0_ := Aside0.mk (below_step (by repeat (first | (with_reducible first | exact HB.out | apply below_alloc | apply pw_below_drewN | apply below_drew1) | exact HB.out)) hb); have n1_ := Aside0.mk (hbox); have n2_ := Aside0.mk ((by rw [hg]; exact (below_size (by repeat (first | (with_reducible first | exact HB.out | apply below_alloc | apply pw_below_drewN | apply below_drew1) | exact HB.out))) : w.heap.size ≤ gb108)); have n3_ := Aside0.mk ((by rw [hg]; exact (below_size (by repeat (first | (with_reducible first | exact HB.out | apply below_alloc | apply pw_below_drewN | apply below_drew1) | exact HB.out))) : w.heap.size ≤ gb108)); clear HB; have HB := n0_; have BK108 := n1_; have GW108 := n2_; have GE108 := n3_; clear n0_ n1_ n2_ n3_; clear hb hbox hg; have hcz10_0 : w9.cell? ⟨gb108, 0, none⟩ = some (.string a0_0) := (blk_cell BK108.out 0).trans rfl; have hcz10_1 : w9.cell? ⟨gb108, 1, none⟩ = some (.string a0_1) := (blk_cell BK108.out 1).trans rfl; have hfz10_0 := blk_frozen BK108.out 0; have hfz10_1 := blk_frozen BK108.out 1) | ((with_reducible refine gate_callee (f := 13) rfl ?_); refine goesL_ (some 6) rfl rfl Tryd.func13 (by kernel_rfl) rfl #[.agg #[.string a0_0, .string a0_1]] rfl (by (try simp only [List.map_toArray, List.map_cons, List.map_nil]); first | done | rfl | (simp only [List.length_drop, List.length_take]; rfl)) ?_; (with_reducible refine (needle_Check.calls a0_0 a0_1 t109 _ A2.out).mono ?_); rintro e w11 ⟨rfl, hb⟩; refine ⟨_, rfl, ?_⟩; have n0_ := Aside0.mk (blk_below (g := gb108) (o := .cells #[.string a0_0, .string a0_1] 28 (0, 0)) (by (with_reducible repeat (first | refine blk_drewN ?_ _ | refine blk_drew ?_ | refine blk_alloc ?_ _)); exact BK108.out) hb); have n1_ := Aside0.mk (below_step (by repeat (first | (with_reducible first | exact HB.out | apply below_alloc | apply pw_below_drewN | apply below_drew1 | refine below_set ?_ GE108.out) | exact HB.out)) hb); clear BK108; clear HB; have BK108 := n0_; have HB := n1_; clear n0_ n1_; (try clear hb); (try clear hb2); (try clear hk); (try clear hi)))
        have n0_ := Aside0.mk (blk_drew BK108.out)
        have n1_ := Aside0.mk (below_drew1 HB.out)
        clear BK108
        clear HB
        have BK108 := n0_
        have HB := n1_
        clear n0_ n1_
        refine start_ (n := 13) (S := fun w' => w'.cell? ⟨gb108, 0, none⟩ = some (.string a0_0) ∧ w'.cell? ⟨gb108, 1, none⟩ = some (.string a0_1)) (ds := []) #[false, false, false, false, false, false, false, false, false, false, false, false, false] (by kernel_rfl) rfl rfl ⟨(blk_cell BK108.out 0).trans rfl, (blk_cell BK108.out 1).trans rfl⟩ (fun hHeld => ?_); refine with_tabW needle_Write.tab4 needle_Write.bits4 (fun HT_ HW_ => ?_)
        generalize w11.drew = w12 at BK108 HB hHeld ⊢
        refine pure_ (i := 0) (N := some 10) (v := ?_) (a' := ?_) #[true, false, false, false, false, false, false, false, false, false, false, false, false] rfl rfl (any_of HT_.out (by kernel_rfl)) (fun _ _ _ h => h) (Or.inl ⟨by rfl, ?_⟩) ?_ ?_
        rotate_left
        · intro w'
          go_simp
          with_reducible rfl
        rotate_left
        · simp only [Act.put, List.setIfInBounds_toArray, List.set_cons_zero, List.set_cons_succ, i64_w, i32_w]
          rfl
        refine pure_ (i := 3) (N := some 13) (v := ?_) (a' := ?_) #[true, false, false, true, false, false, false, false, false, false, false, false, false] rfl rfl (any_of HT_.out (by kernel_rfl)) (fun _ _ _ h => h) (Or.inl ⟨by rfl, ?_⟩) ?_ ?_
        rotate_left
        · intro w'
          go_simp
          with_reducible rfl
        rotate_left
        · simp only [Act.put, List.setIfInBounds_toArray, List.set_cons_zero, List.set_cons_succ, i64_w, i32_w]
          rfl
        refine pure_ (i := 7) (N := some 17) (v := ?_) (a' := ?_) #[true, false, false, true, false, false, false, true, false, false, false, false, false] rfl rfl (any_of HT_.out (by kernel_rfl)) (fun _ _ _ h => h) (Or.inl ⟨by rfl, ?_⟩) ?_ ?_
        rotate_left
        · intro w'
          go_simp
          with_reducible rfl
        rotate_left
        · simp only [Act.put, List.setIfInBounds_toArray, List.set_cons_zero, List.set_cons_succ, i64_w, i32_w]
          rfl
        refine take_ (i := 1) (N := some 11) (v := ?_) (a' := ?_) #[true, true, false, true, false, false, false, true, false, false, false, false, false] rfl rfl (take_ofW HT_.out HW_.out (by kernel_rfl)) (fun _ _ _ h => h) (Or.inl ⟨by rfl, ?_⟩) hHeld ?_ ?_
        rotate_left
        · rintro w' ⟨s0, s1⟩
          go_simp
          with_reducible rfl
        rotate_left
        · simp only [Act.put, List.setIfInBounds_toArray, List.set_cons_zero, List.set_cons_succ, i64_w, i32_w]
          rfl
        refine take_ (i := 4) (N := some 14) (v := ?_) (a' := ?_) #[true, true, false, true, true, false, false, true, false, false, false, false, false] rfl rfl (take_ofW HT_.out HW_.out (by kernel_rfl)) (fun _ _ _ h => h) (Or.inl ⟨by rfl, ?_⟩) hHeld ?_ ?_
        rotate_left
        · rintro w' ⟨s0, s1⟩
          go_simp
          with_reducible rfl
        rotate_left
        · simp only [Act.put, List.setIfInBounds_toArray, List.set_cons_zero, List.set_cons_succ, i64_w, i32_w]
          rfl
        refine take_ (i := 8) (N := some 18) (v := ?_) (a' := ?_) #[true, true, false, true, true, false, false, true, true, false, false, false, false] rfl rfl (take_ofW HT_.out HW_.out (by kernel_rfl)) (fun _ _ _ h => h) (Or.inl ⟨by rfl, ?_⟩) hHeld ?_ ?_
        rotate_left
        · rintro w' ⟨s0, s1⟩
          go_simp
          with_reducible rfl
        rotate_left
        · simp only [Act.put, List.setIfInBounds_toArray, List.set_cons_zero, List.set_cons_succ, i64_w, i32_w]
          rfl
        refine one_ (i := 2) (N := some 12) #[true, true, true, true, true, false, false, true, true, false, false, false, false] rfl rfl (one_of HT_.out (by kernel_rfl)) (by decide) (fun K hK => ?_)
        refine goes_ Tryd.func28 (by kernel_rfl) rfl #[.string a0_0] (by rfl) rfl rfl (by (try simp only [List.map_toArray, List.map_cons, List.map_nil]); first | done | rfl | (simp only [List.length_drop, List.length_take]; rfl)) ?_
        with_reducible refine (pack_Text.calls k a0_0 t110 _ A4.out).mono ?_
        rintro e w13 ⟨rfl, hb⟩
        refine ⟨_, rfl, ?_⟩
        have n0_ := Aside0.mk (blk_below (g := gb108) (o := .cells #[.string a0_0, .string a0_1] 28 (0, 0)) (by (with_reducible repeat (first | refine blk_drewN ?_ _ | refine blk_drew ?_ | refine blk_alloc ?_ _)); exact BK108.out) hb)
        have n1_ := Aside0.mk (below_step (by repeat (first | (with_reducible first | exact HB.out | apply below_alloc | apply pw_below_drewN | apply below_drew1 | refine below_set ?_ GE108.out) | exact HB.out)) hb)
        clear BK108
        clear HB
        have BK108 := n0_
        have HB := n1_
        clear n0_ n1_
        (try clear hb)
        (try clear hb2)
        (try clear hk)
        (try clear hi)
        refine hK.out _ _ ⟨(blk_cell BK108.out 0).trans rfl, (blk_cell BK108.out 1).trans rfl⟩ (fun hHeld => ?_)
        clear hK K
        refine norm_ (a' := ?_) ?_ ?_
        rotate_left
        · show Act.put _ (some 12) _ = _
          simp only [Act.put, List.setIfInBounds_toArray, List.set_cons_zero, List.set_cons_succ, i64_w, i32_w]
          rfl
        refine one_ (i := 5) (N := some 15) #[true, true, true, true, true, true, false, true, true, false, false, false, false] rfl rfl (one_of HT_.out (by kernel_rfl)) (by decide) (fun K hK => ?_)
        refine goes_ Tryd.func28 (by kernel_rfl) rfl #[.string a0_1] (by rfl) rfl rfl (by (try simp only [List.map_toArray, List.map_cons, List.map_nil]); first | done | rfl | (simp only [List.length_drop, List.length_take]; rfl)) ?_
        with_reducible refine (pack_Text.calls k a0_1 t111 _ A5.out).mono ?_
        rintro e w14 ⟨rfl, hb⟩
        refine ⟨_, rfl, ?_⟩
        have n0_ := Aside0.mk (blk_below (g := gb108) (o := .cells #[.string a0_0, .string a0_1] 28 (0, 0)) (by (with_reducible repeat (first | refine blk_drewN ?_ _ | refine blk_drew ?_ | refine blk_alloc ?_ _)); exact BK108.out) hb)
        have n1_ := Aside0.mk (below_step (by repeat (first | (with_reducible first | exact HB.out | apply below_alloc | apply pw_below_drewN | apply below_drew1 | refine below_set ?_ GE108.out) | exact HB.out)) hb)
        clear BK108
        clear HB
        have BK108 := n0_
        have HB := n1_
        clear n0_ n1_
        (try clear hb)
        (try clear hb2)
        (try clear hk)
        (try clear hi)
        refine hK.out _ _ ⟨(blk_cell BK108.out 0).trans rfl, (blk_cell BK108.out 1).trans rfl⟩ (fun hHeld => ?_)
        clear hK K
        refine norm_ (a' := ?_) ?_ ?_
        rotate_left
        · show Act.put _ (some 15) _ = _
          simp only [Act.put, List.setIfInBounds_toArray, List.set_cons_zero, List.set_cons_succ, i64_w, i32_w]
          rfl
        refine pure_ (i := 6) (N := some 16) (v := ?_) (a' := ?_) #[true, true, true, true, true, true, true, true, true, false, false, false, false] rfl rfl (any_of HT_.out (by kernel_rfl)) (fun _ _ _ h => h) (Or.inl ⟨by rfl, ?_⟩) ?_ ?_
        rotate_left
        · intro w'
          go_simp
          with_reducible rfl
        rotate_left
        · simp only [Act.put, List.setIfInBounds_toArray, List.set_cons_zero, List.set_cons_succ, i64_w, i32_w]
          rfl
        refine one_ (i := 9) (N := some 19) #[true, true, true, true, true, true, true, true, true, true, false, false, false] rfl rfl (one_of HT_.out (by kernel_rfl)) (by decide) (fun K hK => ?_)
        refine goes_ Tryd.func29 (by kernel_rfl) rfl #[.string a0_1] (by rfl) rfl rfl (by (try simp only [List.map_toArray, List.map_cons, List.map_nil]); first | done | rfl | (simp only [List.length_drop, List.length_take]; rfl)) ?_
        with_reducible refine (digest_Sum.calls a0_1 t112 _ A7.out).mono ?_
        rintro e w15 ⟨rfl, hb⟩
        refine ⟨_, rfl, ?_⟩
        have n0_ := Aside0.mk (blk_below (g := gb108) (o := .cells #[.string a0_0, .string a0_1] 28 (0, 0)) (by (with_reducible repeat (first | refine blk_drewN ?_ _ | refine blk_drew ?_ | refine blk_alloc ?_ _)); exact BK108.out) hb)
        have n1_ := Aside0.mk (below_step (by repeat (first | (with_reducible first | exact HB.out | apply below_alloc | apply pw_below_drewN | apply below_drew1 | refine below_set ?_ GE108.out) | exact HB.out)) hb)
        clear BK108
        clear HB
        have BK108 := n0_
        have HB := n1_
        clear n0_ n1_
        (try clear hb)
        (try clear hb2)
        (try clear hk)
        (try clear hi)
        refine hK.out _ _ ⟨(blk_cell BK108.out 0).trans rfl, (blk_cell BK108.out 1).trans rfl⟩ (fun hHeld => ?_)
        clear hK K
        refine norm_ (a' := ?_) ?_ ?_
        rotate_left
        · show Act.put _ (some 19) _ = _
          simp only [Act.put, List.setIfInBounds_toArray, List.set_cons_zero, List.set_cons_succ, i64_w, i32_w]
          rfl
        refine pure_ (i := 10) (N := some 20) (v := ?_) (a' := ?_) #[true, true, true, true, true, true, true, true, true, true, true, false, false] rfl rfl (any_of HT_.out (by kernel_rfl)) (fun _ _ _ h => h) (Or.inl ⟨by rfl, ?_⟩) ?_ ?_
        rotate_left
        · intro w'
          go_simp
          with_reducible rfl
        rotate_left
        · simp only [Act.put, List.setIfInBounds_toArray, List.set_cons_zero, List.set_cons_succ, i64_w, i32_w]
          rfl
        refine pure_ (i := 11) (N := some 2) (v := ?_) (a' := ?_) #[true, true, true, true, true, true, true, true, true, true, true, true, false] rfl rfl (any_of HT_.out (by kernel_rfl)) (fun _ _ _ h => h) (Or.inl ⟨by rfl, ?_⟩) ?_ ?_
        rotate_left
        · intro w'
          go_simp
          with_reducible rfl
        rotate_left
        · simp only [Act.put, List.setIfInBounds_toArray, List.set_cons_zero, List.set_cons_succ, i64_w, i32_w]
          rfl
        refine pure_ (i := 12) (N := some 3) (v := ?_) (a' := ?_) #[true, true, true, true, true, true, true, true, true, true, true, true, true] rfl rfl (any_of HT_.out (by kernel_rfl)) (fun _ _ _ h => h) (Or.inl ⟨by rfl, ?_⟩) ?_ ?_
        rotate_left
        · intro w'
          go_simp
          with_reducible rfl
        rotate_left
        · simp only [Act.put, List.setIfInBounds_toArray, List.set_cons_zero, List.set_cons_succ, i64_w, i32_w]
          rfl
        refine done_ (done_of HT_.out (by kernel_rfl)) ?_
        try go_wp2
        go_ret2
        exact ⟨by first | rfl | (simp [errW_none, errW_some] <;> rfl) | (simp [*, errW_none, errW_some] <;> rfl), by repeat (first | (with_reducible first | exact HB.out | apply below_alloc | apply pw_below_drewN | apply below_drew1 | refine below_set ?_ GE108.out) | exact HB.out)⟩
      · rw [if_neg c8] at H
        exact absurd H (by simp)
    · rw [if_neg c6] at H
      exact absurd H (by simp)
  · rw [if_neg c3] at H
    have c3b0 : (t109 == 0) = false := beq_eq_false_iff_ne.mpr c3
    have c3b1 : (t109 != 0) = true := bne_iff_ne.mpr c3
    simp only [Option.some.injEq, Prod.mk.injEq] at H
    obtain ⟨rfl, rfl⟩ := H
    go_enter Tryd.func10, Tryd.ntmps10
    go_wp2_with (first | ((with_reducible refine gate_dst (N := 1) rfl ?_); refine box_event ?hg (N := 1) ?hd (cs := #[.string a0_0, .string a0_1]) (t := 28) ?hr ?_; (case hd => rfl); (case hg => rfl); (case hr => first | (go_simp; done) | (go_simp; rfl)); intro gb108 hg w16 hbox hb; have n0_ := Aside0.mk (below_step (by repeat (first | (with_reducible first | exact HB.out | apply below_alloc | apply pw_below_drewN | apply below_drew1) | exact HB.out)) hb); have n1_ := Aside0.mk (hbox); have n2_ := Aside0.mk ((by rw [hg]; exact (below_size (by repeat (first | (with_reducible first | exact HB.out | apply below_alloc | apply pw_below_drewN | apply below_drew1) | exact HB.out))) : w.heap.size ≤ gb108)); have n3_ := Aside0.mk ((by rw [hg]; exact (below_size (by repeat (first | (with_reducible first | exact HB.out | apply below_alloc | apply pw_below_drewN | apply below_drew1) | exact HB.out))) : w.heap.size ≤ gb108)); clear HB; have HB := n0_; have BK108 := n1_; have GW108 := n2_; have GE108 := n3_; clear n0_ n1_ n2_ n3_; clear hb hbox hg; have hcz17_0 : w16.cell? ⟨gb108, 0, none⟩ = some (.string a0_0) := (blk_cell BK108.out 0).trans rfl; have hcz17_1 : w16.cell? ⟨gb108, 1, none⟩ = some (.string a0_1) := (blk_cell BK108.out 1).trans rfl; have hfz17_0 := blk_frozen BK108.out 0; have hfz17_1 := blk_frozen BK108.out 1) | ((with_reducible refine gate_callee (f := 13) rfl ?_); refine goesL_ (some 6) rfl rfl Tryd.func13 (by kernel_rfl) rfl #[.agg #[.string a0_0, .string a0_1]] rfl (by (try simp only [List.map_toArray, List.map_cons, List.map_nil]); first | done | rfl | (simp only [List.length_drop, List.length_take]; rfl)) ?_; (with_reducible refine (needle_Check.calls a0_0 a0_1 t109 _ A2.out).mono ?_); rintro e w18 ⟨rfl, hb⟩; refine ⟨_, rfl, ?_⟩; have n0_ := Aside0.mk (blk_below (g := gb108) (o := .cells #[.string a0_0, .string a0_1] 28 (0, 0)) (by (with_reducible repeat (first | refine blk_drewN ?_ _ | refine blk_drew ?_ | refine blk_alloc ?_ _)); exact BK108.out) hb); have n1_ := Aside0.mk (below_step (by repeat (first | (with_reducible first | exact HB.out | apply below_alloc | apply pw_below_drewN | apply below_drew1 | refine below_set ?_ GE108.out) | exact HB.out)) hb); clear BK108; clear HB; have BK108 := n0_; have HB := n1_; clear n0_ n1_; (try clear hb); (try clear hb2); (try clear hk); (try clear hi)))
    go_ret2
    exact ⟨by first | rfl | (simp [errW_none, errW_some] <;> rfl) | (simp [*, errW_none, errW_some] <;> rfl), by repeat (first | (with_reducible first | exact HB.out | apply below_alloc | apply pw_below_drewN | apply below_drew1 | refine below_set ?_ GE108.out) | exact HB.out)⟩
def needle_Read.f (k : Nat) (a0 : ByteArray) : Option (ByteArray × ByteArray × ByteArray × Int) := (pack_Read.f a0).bind fun bt143 => ((pack_Reader_Text.f k bt143.1 bt143.2).bind fun bt146 => ((pack_Reader_Text.f k bt146.2.1 bt146.2.2).bind fun bt150 => ((pack_Reader_Rest.f bt150.2.1 bt150.2.2).bind fun bt153 => ((pack_Reader_End.f bt153.2.1 bt153.2.2).bind fun bt156 => (if bt156.1 = 0 then (if (bt153.1.size : Int) < 32 then (some ((⟨#[]⟩ : ByteArray), (⟨#[]⟩ : ByteArray), (⟨#[]⟩ : ByteArray), 3)) else (if 0 ≤ 32 then (if 32 ≤ (bt153.1.size : Int) then ((digest_Sum.f bt150.1).bind fun t159 => (if (bt153.1.extract 0 32).toList = t159.toList then ((needle_Check.f bt146.1 bt150.1).bind fun t160 => (if t160 = 0 then (some (bt146.1, bt150.1, bt153.1.extract 32 bt153.1.size, 0)) else (some ((⟨#[]⟩ : ByteArray), (⟨#[]⟩ : ByteArray), (⟨#[]⟩ : ByteArray), t160)))) else (some ((⟨#[]⟩ : ByteArray), (⟨#[]⟩ : ByteArray), (⟨#[]⟩ : ByteArray), 5)))) else (none)) else (none))) else (some ((⟨#[]⟩ : ByteArray), (⟨#[]⟩ : ByteArray), (⟨#[]⟩ : ByteArray), bt156.1)))))))
set_option maxHeartbeats 8000000 in
set_option maxRecDepth 100000 in
theorem needle_Read.calls (k : Nat) (a0 : ByteArray) (r1 : ByteArray) (r2 : ByteArray) (r3 : ByteArray) (r4 : Int) (w : World) (h : needle_Read.f k a0 = some (r1, r2, r3, r4)) :
    Calls Tryd.prog 15 #[.string a0] w fun e w' => e = .returned (.tuple #[.agg #[.string r1, .string r2], .string r3, .int .i64 r4]) ∧ Below w.heap.size w w' := by
  have hu28 := Tryd.underlying28
  have HB := Aside0.mk (Below.refl w.heap.size w)
  have H : ((pack_Read.f a0).bind fun bt143 => ((pack_Reader_Text.f k bt143.1 bt143.2).bind fun bt146 => ((pack_Reader_Text.f k bt146.2.1 bt146.2.2).bind fun bt150 => ((pack_Reader_Rest.f bt150.2.1 bt150.2.2).bind fun bt153 => ((pack_Reader_End.f bt153.2.1 bt153.2.2).bind fun bt156 => (if bt156.1 = 0 then (if (bt153.1.size : Int) < 32 then (some ((⟨#[]⟩ : ByteArray), (⟨#[]⟩ : ByteArray), (⟨#[]⟩ : ByteArray), 3)) else (if 0 ≤ 32 then (if 32 ≤ (bt153.1.size : Int) then ((digest_Sum.f bt150.1).bind fun t159 => (if (bt153.1.extract 0 32).toList = t159.toList then ((needle_Check.f bt146.1 bt150.1).bind fun t160 => (if t160 = 0 then (some (bt146.1, bt150.1, bt153.1.extract 32 bt153.1.size, 0)) else (some ((⟨#[]⟩ : ByteArray), (⟨#[]⟩ : ByteArray), (⟨#[]⟩ : ByteArray), t160)))) else (some ((⟨#[]⟩ : ByteArray), (⟨#[]⟩ : ByteArray), (⟨#[]⟩ : ByteArray), 5)))) else (none)) else (none))) else (some ((⟨#[]⟩ : ByteArray), (⟨#[]⟩ : ByteArray), (⟨#[]⟩ : ByteArray), bt156.1)))))))) = some (r1, r2, r3, r4) := h
  clear h
  replace H := Option.bind_eq_some_iff.mp H
  obtain ⟨⟨t143, t144⟩, A20, H⟩ := H
  replace H : ((pack_Reader_Text.f k t143 t144).bind fun bt146 => ((pack_Reader_Text.f k bt146.2.1 bt146.2.2).bind fun bt150 => ((pack_Reader_Rest.f bt150.2.1 bt150.2.2).bind fun bt153 => ((pack_Reader_End.f bt153.2.1 bt153.2.2).bind fun bt156 => (if bt156.1 = 0 then (if (bt153.1.size : Int) < 32 then (some ((⟨#[]⟩ : ByteArray), (⟨#[]⟩ : ByteArray), (⟨#[]⟩ : ByteArray), 3)) else (if 0 ≤ 32 then (if 32 ≤ (bt153.1.size : Int) then ((digest_Sum.f bt150.1).bind fun t159 => (if (bt153.1.extract 0 32).toList = t159.toList then ((needle_Check.f bt146.1 bt150.1).bind fun t160 => (if t160 = 0 then (some (bt146.1, bt150.1, bt153.1.extract 32 bt153.1.size, 0)) else (some ((⟨#[]⟩ : ByteArray), (⟨#[]⟩ : ByteArray), (⟨#[]⟩ : ByteArray), t160)))) else (some ((⟨#[]⟩ : ByteArray), (⟨#[]⟩ : ByteArray), (⟨#[]⟩ : ByteArray), 5)))) else (none)) else (none))) else (some ((⟨#[]⟩ : ByteArray), (⟨#[]⟩ : ByteArray), (⟨#[]⟩ : ByteArray), bt156.1))))))) = some (r1, r2, r3, r4) := H
  have A2 := Aside0.mk A20
  clear A20
  replace H := Option.bind_eq_some_iff.mp H
  obtain ⟨⟨t146, t147, t148⟩, A30, H⟩ := H
  replace H : ((pack_Reader_Text.f k t147 t148).bind fun bt150 => ((pack_Reader_Rest.f bt150.2.1 bt150.2.2).bind fun bt153 => ((pack_Reader_End.f bt153.2.1 bt153.2.2).bind fun bt156 => (if bt156.1 = 0 then (if (bt153.1.size : Int) < 32 then (some ((⟨#[]⟩ : ByteArray), (⟨#[]⟩ : ByteArray), (⟨#[]⟩ : ByteArray), 3)) else (if 0 ≤ 32 then (if 32 ≤ (bt153.1.size : Int) then ((digest_Sum.f bt150.1).bind fun t159 => (if (bt153.1.extract 0 32).toList = t159.toList then ((needle_Check.f t146 bt150.1).bind fun t160 => (if t160 = 0 then (some (t146, bt150.1, bt153.1.extract 32 bt153.1.size, 0)) else (some ((⟨#[]⟩ : ByteArray), (⟨#[]⟩ : ByteArray), (⟨#[]⟩ : ByteArray), t160)))) else (some ((⟨#[]⟩ : ByteArray), (⟨#[]⟩ : ByteArray), (⟨#[]⟩ : ByteArray), 5)))) else (none)) else (none))) else (some ((⟨#[]⟩ : ByteArray), (⟨#[]⟩ : ByteArray), (⟨#[]⟩ : ByteArray), bt156.1)))))) = some (r1, r2, r3, r4) := H
  have A3 := Aside0.mk A30
  clear A30
  replace H := Option.bind_eq_some_iff.mp H
  obtain ⟨⟨t150, t151, t152⟩, A40, H⟩ := H
  replace H : ((pack_Reader_Rest.f t151 t152).bind fun bt153 => ((pack_Reader_End.f bt153.2.1 bt153.2.2).bind fun bt156 => (if bt156.1 = 0 then (if (bt153.1.size : Int) < 32 then (some ((⟨#[]⟩ : ByteArray), (⟨#[]⟩ : ByteArray), (⟨#[]⟩ : ByteArray), 3)) else (if 0 ≤ 32 then (if 32 ≤ (bt153.1.size : Int) then ((digest_Sum.f t150).bind fun t159 => (if (bt153.1.extract 0 32).toList = t159.toList then ((needle_Check.f t146 t150).bind fun t160 => (if t160 = 0 then (some (t146, t150, bt153.1.extract 32 bt153.1.size, 0)) else (some ((⟨#[]⟩ : ByteArray), (⟨#[]⟩ : ByteArray), (⟨#[]⟩ : ByteArray), t160)))) else (some ((⟨#[]⟩ : ByteArray), (⟨#[]⟩ : ByteArray), (⟨#[]⟩ : ByteArray), 5)))) else (none)) else (none))) else (some ((⟨#[]⟩ : ByteArray), (⟨#[]⟩ : ByteArray), (⟨#[]⟩ : ByteArray), bt156.1))))) = some (r1, r2, r3, r4) := H
  have A4 := Aside0.mk A40
  clear A40
  replace H := Option.bind_eq_some_iff.mp H
  obtain ⟨⟨t153, t154, t155⟩, A50, H⟩ := H
  replace H : ((pack_Reader_End.f t154 t155).bind fun bt156 => (if bt156.1 = 0 then (if (t153.size : Int) < 32 then (some ((⟨#[]⟩ : ByteArray), (⟨#[]⟩ : ByteArray), (⟨#[]⟩ : ByteArray), 3)) else (if 0 ≤ 32 then (if 32 ≤ (t153.size : Int) then ((digest_Sum.f t150).bind fun t159 => (if (t153.extract 0 32).toList = t159.toList then ((needle_Check.f t146 t150).bind fun t160 => (if t160 = 0 then (some (t146, t150, t153.extract 32 t153.size, 0)) else (some ((⟨#[]⟩ : ByteArray), (⟨#[]⟩ : ByteArray), (⟨#[]⟩ : ByteArray), t160)))) else (some ((⟨#[]⟩ : ByteArray), (⟨#[]⟩ : ByteArray), (⟨#[]⟩ : ByteArray), 5)))) else (none)) else (none))) else (some ((⟨#[]⟩ : ByteArray), (⟨#[]⟩ : ByteArray), (⟨#[]⟩ : ByteArray), bt156.1)))) = some (r1, r2, r3, r4) := H
  have A5 := Aside0.mk A50
  clear A50
  replace H := Option.bind_eq_some_iff.mp H
  obtain ⟨⟨t156, t157, t158⟩, A60, H⟩ := H
  replace H : (if t156 = 0 then (if (t153.size : Int) < 32 then (some ((⟨#[]⟩ : ByteArray), (⟨#[]⟩ : ByteArray), (⟨#[]⟩ : ByteArray), 3)) else (if 0 ≤ 32 then (if 32 ≤ (t153.size : Int) then ((digest_Sum.f t150).bind fun t159 => (if (t153.extract 0 32).toList = t159.toList then ((needle_Check.f t146 t150).bind fun t160 => (if t160 = 0 then (some (t146, t150, t153.extract 32 t153.size, 0)) else (some ((⟨#[]⟩ : ByteArray), (⟨#[]⟩ : ByteArray), (⟨#[]⟩ : ByteArray), t160)))) else (some ((⟨#[]⟩ : ByteArray), (⟨#[]⟩ : ByteArray), (⟨#[]⟩ : ByteArray), 5)))) else (none)) else (none))) else (some ((⟨#[]⟩ : ByteArray), (⟨#[]⟩ : ByteArray), (⟨#[]⟩ : ByteArray), t156))) = some (r1, r2, r3, r4) := H
  have A6 := Aside0.mk A60
  clear A60
  by_cases c7 : t156 = 0
  · rw [if_pos c7] at H
    have c7b0 : (t156 == 0) = true := beq_iff_eq.mpr c7
    have c7b1 : (t156 != 0) = false := bne_eq_false_iff_eq.mpr c7
    clear c7
    by_cases c8 : (t153.size : Int) < 32
    · rw [if_pos c8] at H
      have c8b0 : decide ((t153.size : Int) < 32) = true := decide_eq_true c8
      have c8b1 : decide (t153.size < 32) = true := decide_eq_true (by omega)
      clear c8
      simp only [Option.some.injEq, Prod.mk.injEq] at H
      obtain ⟨rfl, rfl, rfl, rfl⟩ := H
      go_enter Tryd.func15, Tryd.ntmps15
      go_wp2_with (first | ((with_reducible refine gate_dst (N := 2) rfl ?_); refine box_event ?hg (N := 2) ?hd (cs := #[.string (⟨#[]⟩ : ByteArray), .string (⟨#[]⟩ : ByteArray)]) (t := 28) ?hr ?_; (case hd => rfl); (case hg => rfl); (case hr => first | (go_simp; done) | (go_simp; rfl)); intro gb142 hg w9 hbox hb; have n0_ := Aside0.mk (below_step (by repeat (first | (with_reducible first | exact HB.out | apply below_alloc | apply pw_below_drewN | apply below_drew1) | exact HB.out)) hb); have n1_ := Aside0.mk (hbox); have n2_ := Aside0.mk ((by rw [hg]; exact (below_size (by repeat (first | (with_reducible first | exact HB.out | apply below_alloc | apply pw_below_drewN | apply below_drew1) | exact HB.out))) : w.heap.size ≤ gb142)); have n3_ := Aside0.mk ((by rw [hg]; exact (below_size (by repeat (first | (with_reducible first | exact HB.out | apply below_alloc | apply pw_below_drewN | apply below_drew1) | exact HB.out))) : w.heap.size ≤ gb142)); clear HB; have HB := n0_; have BK142 := n1_; have GW142 := n2_; have GE142 := n3_; clear n0_ n1_ n2_ n3_; clear hb hbox hg) | ((with_reducible refine gate_callee (f := 35) rfl ?_); refine goesL_ (some 11) rfl rfl Tryd.func35 (by kernel_rfl) rfl #[.string a0] rfl (by (try simp only [List.map_toArray, List.map_cons, List.map_nil]); first | done | rfl | (simp only [List.length_drop, List.length_take]; rfl)) ?_; (with_reducible refine (pack_Read.calls a0 t143 t144 w _ ?side1 A2.out).mono ?_); (case side1 => repeat (first | (with_reducible first | exact HB.out | apply below_alloc | apply pw_below_drewN | apply below_drew1 | refine below_set ?_ GE142.out) | exact HB.out)); rintro e w10 ⟨g145, rfl, hi, hb, hb2⟩; refine ⟨_, rfl, ?_⟩; have n0_ := Aside0.mk (blk_below (g := gb142) (o := .cells #[.string (⟨#[]⟩ : ByteArray), .string (⟨#[]⟩ : ByteArray)] 28 (0, 0)) (by (with_reducible repeat (first | refine blk_drewN ?_ _ | refine blk_drew ?_ | refine blk_alloc ?_ _)); exact BK142.out) hb2); have n1_ := Aside0.mk (hb); have n2_ := Aside0.mk (hi); have n3_ := Aside0.mk (IsS88.ne_blk hi (blk_below (g := gb142) (o := .cells #[.string (⟨#[]⟩ : ByteArray), .string (⟨#[]⟩ : ByteArray)] 28 (0, 0)) (by (with_reducible repeat (first | refine blk_drewN ?_ _ | refine blk_drew ?_ | refine blk_alloc ?_ _)); exact BK142.out) hb2) (by decide)); have n4_ := Aside0.mk (Ne.symm (IsS88.ne_blk hi (blk_below (g := gb142) (o := .cells #[.string (⟨#[]⟩ : ByteArray), .string (⟨#[]⟩ : ByteArray)] 28 (0, 0)) (by (with_reducible repeat (first | refine blk_drewN ?_ _ | refine blk_drew ?_ | refine blk_alloc ?_ _)); exact BK142.out) hb2) (by decide))); clear BK142; clear HB; have BK142 := n0_; have HB := n1_; have HI145 := n2_; have NB145_142 := n3_; have NB142_145 := n4_; clear n0_ n1_ n2_ n3_ n4_; (try clear hb); (try clear hb2); (try clear hk); (try clear hi)) | ((with_reducible refine gate_callee (f := 36) rfl ?_); refine goesL_ (some 13) rfl rfl Tryd.func36 (by kernel_rfl) rfl #[.pointer (some ⟨g145, 0, none⟩)] rfl (by (try simp only [List.map_toArray, List.map_cons, List.map_nil]); first | done | rfl | (simp only [List.length_drop, List.length_take]; rfl)) ?_; (with_reducible refine (pack_Reader_Text.calls k g145 t143 t144 t146 t147 t148 w _ ?side1 ?side2 A3.out).mono ?_); (case side1 => repeat (first | (with_reducible first | exact HI145.out | apply IsS88.alloc | apply IsS88.drewN | apply IsS88.drew | apply IsS88.set_0 | apply IsS88.set_1 | refine IsS88.far ?_ NB145_142.out _) | exact HI145.out)); (case side2 => repeat (first | (with_reducible first | exact HB.out | apply below_alloc | apply pw_below_drewN | apply below_drew1 | refine below_set ?_ (IsS88.ge HI145.out) | refine below_set ?_ GE142.out) | exact HB.out)); rintro e w11 ⟨rfl, hi, hb, hk⟩; refine ⟨_, rfl, ?_⟩; have n0_ := Aside0.mk (KeepBut.blk hk (g' := gb142) (o := .cells #[.string (⟨#[]⟩ : ByteArray), .string (⟨#[]⟩ : ByteArray)] 28 (0, 0)) (by (with_reducible repeat (first | refine blk_drewN ?_ _ | refine blk_drew ?_ | refine blk_alloc ?_ _)); exact BK142.out) NB142_145.out (by simp)); have n1_ := Aside0.mk (hb); have n2_ := Aside0.mk (hi); clear BK142; clear HB; clear HI145; have BK142 := n0_; have HB := n1_; have HI145 := n2_; clear n0_ n1_ n2_; (try clear hb); (try clear hb2); (try clear hk); (try clear hi)) | ((with_reducible refine gate_dst (N := 6) rfl ?_); refine box_event ?hg (N := 6) ?hd (cs := #[.string (⟨#[]⟩ : ByteArray), .string (⟨#[]⟩ : ByteArray)]) (t := 28) ?hr ?_; (case hd => rfl); (case hg => rfl); (case hr => first | (go_simp; done) | (go_simp; rfl)); intro gb149 hg w12 hbox hb; have n0_ := Aside0.mk (blk_below (g := gb142) (o := .cells #[.string (⟨#[]⟩ : ByteArray), .string (⟨#[]⟩ : ByteArray)] 28 (0, 0)) (by (with_reducible repeat (first | refine blk_drewN ?_ _ | refine blk_drew ?_ | refine blk_alloc ?_ _)); exact BK142.out) hb); have n1_ := Aside0.mk (IsS88.below (by repeat (first | (with_reducible first | exact HI145.out | apply IsS88.alloc | apply IsS88.drewN | apply IsS88.drew | apply IsS88.set_0 | apply IsS88.set_1 | refine IsS88.far ?_ NB145_142.out _) | exact HI145.out)) hb); have n2_ := Aside0.mk (below_step (by repeat (first | (with_reducible first | exact HB.out | apply below_alloc | apply pw_below_drewN | apply below_drew1 | refine below_set ?_ (IsS88.ge HI145.out) | refine below_set ?_ GE142.out) | exact HB.out)) hb); have n3_ := Aside0.mk (hbox); have n4_ := Aside0.mk ((by rw [hg]; exact (below_size (by repeat (first | (with_reducible first | exact HB.out | apply below_alloc | apply pw_below_drewN | apply below_drew1 | refine below_set ?_ (IsS88.ge HI145.out) | refine below_set ?_ GE142.out) | exact HB.out))) : w.heap.size ≤ gb149)); have n5_ := Aside0.mk ((by rw [hg]; exact (below_size (by repeat (first | (with_reducible first | exact HB.out | apply below_alloc | apply pw_below_drewN | apply below_drew1 | refine below_set ?_ (IsS88.ge HI145.out) | refine below_set ?_ GE142.out) | exact HB.out))) : w.heap.size ≤ gb149)); have n6_ := Aside0.mk ((by rw [hg]; exact Nat.ne_of_lt (blk_lt (g := gb142) (o := .cells #[.string (⟨#[]⟩ : ByteArray), .string (⟨#[]⟩ : ByteArray)] 28 (0, 0)) (by (with_reducible repeat (first | refine blk_drewN ?_ _ | refine blk_drew ?_ | refine blk_alloc ?_ _)); exact BK142.out)) : gb142 ≠ gb149)); have n7_ := Aside0.mk ((by rw [hg]; exact Nat.ne_of_gt (blk_lt (g := gb142) (o := .cells #[.string (⟨#[]⟩ : ByteArray), .string (⟨#[]⟩ : ByteArray)] 28 (0, 0)) (by (with_reducible repeat (first | refine blk_drewN ?_ _ | refine blk_drew ?_ | refine blk_alloc ?_ _)); exact BK142.out)) : gb149 ≠ gb142)); have n8_ := Aside0.mk ((by rw [hg]; exact Nat.ne_of_lt (IsS88.lt (show IsS88 w _ g145 t147 t148 from by repeat (first | (with_reducible first | exact HI145.out | apply IsS88.alloc | apply IsS88.drewN | apply IsS88.drew | apply IsS88.set_0 | apply IsS88.set_1 | refine IsS88.far ?_ NB145_142.out _) | exact HI145.out))) : g145 ≠ gb149)); have n9_ := Aside0.mk ((by rw [hg]; exact Nat.ne_of_gt (IsS88.lt (show IsS88 w _ g145 t147 t148 from by repeat (first | (with_reducible first | exact HI145.out | apply IsS88.alloc | apply IsS88.drewN | apply IsS88.drew | apply IsS88.set_0 | apply IsS88.set_1 | refine IsS88.far ?_ NB145_142.out _) | exact HI145.out))) : gb149 ≠ g145)); clear BK142; clear HI145; clear HB; have BK142 := n0_; have HI145 := n1_; have HB := n2_; have BK149 := n3_; have GW149 := n4_; have GE149 := n5_; have NB142_149 := n6_; have NB149_142 := n7_; have NB145_149 := n8_; have NB149_145 := n9_; clear n0_ n1_ n2_ n3_ n4_ n5_ n6_ n7_ n8_ n9_; clear hb hbox hg; have hnb13 := NB149_142.out; have hnc13 := NB142_149.out; have hnb14 := NB149_145.out; have hnc14 := NB145_149.out; have hcz15_0 : w12.cell? ⟨gb149, 0, none⟩ = some (.string (⟨#[]⟩ : ByteArray)) := (blk_cell BK149.out 0).trans rfl; have hcz15_1 : w12.cell? ⟨gb149, 1, none⟩ = some (.string (⟨#[]⟩ : ByteArray)) := (blk_cell BK149.out 1).trans rfl; have hfz15_0 := blk_frozen BK149.out 0; have hfz15_1 := blk_frozen BK149.out 1) | ((with_reducible refine gate_callee (f := 36) rfl ?_); refine goesL_ (some 16) rfl rfl Tryd.func36 (by kernel_rfl) rfl #[.pointer (some ⟨g145, 0, none⟩)] rfl (by (try simp only [List.map_toArray, List.map_cons, List.map_nil]); first | done | rfl | (simp only [List.length_drop, List.length_take]; rfl)) ?_; (with_reducible refine (pack_Reader_Text.calls k g145 t147 t148 t150 t151 t152 w _ ?side1 ?side2 A4.out).mono ?_); (case side1 => repeat (first | (with_reducible first | exact HI145.out | apply IsS88.alloc | apply IsS88.drewN | apply IsS88.drew | apply IsS88.set_0 | apply IsS88.set_1 | refine IsS88.far ?_ NB145_142.out _ | refine IsS88.far ?_ NB145_149.out _) | exact HI145.out)); (case side2 => repeat (first | (with_reducible first | exact HB.out | apply below_alloc | apply pw_below_drewN | apply below_drew1 | refine below_set ?_ (IsS88.ge HI145.out) | refine below_set ?_ GE142.out | refine below_set ?_ GE149.out) | exact HB.out)); rintro e w16 ⟨rfl, hi, hb, hk⟩; refine ⟨_, rfl, ?_⟩; have n0_ := Aside0.mk (KeepBut.blk hk (g' := gb142) (o := .cells #[.string (⟨#[]⟩ : ByteArray), .string (⟨#[]⟩ : ByteArray)] 28 (0, 0)) (by (with_reducible repeat (first | refine blk_drewN ?_ _ | refine blk_drew ?_ | refine blk_alloc ?_ _)); refine blk_far ?_ NB142_149.out _; (with_reducible repeat (first | refine blk_drewN ?_ _ | refine blk_drew ?_ | refine blk_alloc ?_ _)); refine blk_far ?_ NB142_149.out _; (with_reducible repeat (first | refine blk_drewN ?_ _ | refine blk_drew ?_ | refine blk_alloc ?_ _)); exact BK142.out) NB142_145.out (by simp)); have n1_ := Aside0.mk (KeepBut.blk hk (g' := gb149) (o := .cells #[.string t146, .string (⟨#[]⟩ : ByteArray)] 28 (0, 0)) (by (with_reducible repeat (first | refine blk_drewN ?_ _ | refine blk_drew ?_ | refine blk_alloc ?_ _)); refine blk_put (cs := #[.string t146, .string (⟨#[]⟩ : ByteArray)]) ?_ 1 _ rfl; (with_reducible repeat (first | refine blk_drewN ?_ _ | refine blk_drew ?_ | refine blk_alloc ?_ _)); refine blk_put (cs := #[.string (⟨#[]⟩ : ByteArray), .string (⟨#[]⟩ : ByteArray)]) ?_ 0 _ rfl; (with_reducible repeat (first | refine blk_drewN ?_ _ | refine blk_drew ?_ | refine blk_alloc ?_ _)); exact BK149.out) NB149_145.out (by simp)); have n2_ := Aside0.mk (hb); have n3_ := Aside0.mk (hi); clear BK142; clear BK149; clear HB; clear HI145; have BK142 := n0_; have BK149 := n1_; have HB := n2_; have HI145 := n3_; clear n0_ n1_ n2_ n3_; (try clear hb); (try clear hb2); (try clear hk); (try clear hi); have hcz17_0 : w16.cell? ⟨gb149, 0, none⟩ = some (.string t146) := (blk_cell BK149.out 0).trans rfl; have hcz17_1 : w16.cell? ⟨gb149, 1, none⟩ = some (.string (⟨#[]⟩ : ByteArray)) := (blk_cell BK149.out 1).trans rfl; have hfz17_0 := blk_frozen BK149.out 0; have hfz17_1 := blk_frozen BK149.out 1) | ((with_reducible refine gate_callee (f := 37) rfl ?_); refine goesL_ (some 19) rfl rfl Tryd.func37 (by kernel_rfl) rfl #[.pointer (some ⟨g145, 0, none⟩)] rfl (by (try simp only [List.map_toArray, List.map_cons, List.map_nil]); first | done | rfl | (simp only [List.length_drop, List.length_take]; rfl)) ?_; (with_reducible refine (pack_Reader_Rest.calls g145 t151 t152 t153 t154 t155 w _ ?side1 ?side2 A5.out).mono ?_); (case side1 => repeat (first | (with_reducible first | exact HI145.out | apply IsS88.alloc | apply IsS88.drewN | apply IsS88.drew | apply IsS88.set_0 | apply IsS88.set_1 | refine IsS88.far ?_ NB145_142.out _ | refine IsS88.far ?_ NB145_149.out _) | exact HI145.out)); (case side2 => repeat (first | (with_reducible first | exact HB.out | apply below_alloc | apply pw_below_drewN | apply below_drew1 | refine below_set ?_ (IsS88.ge HI145.out) | refine below_set ?_ GE142.out | refine below_set ?_ GE149.out) | exact HB.out)); rintro e w18 ⟨rfl, hi, hb, hk⟩; refine ⟨_, rfl, ?_⟩; have n0_ := Aside0.mk (KeepBut.blk hk (g' := gb142) (o := .cells #[.string (⟨#[]⟩ : ByteArray), .string (⟨#[]⟩ : ByteArray)] 28 (0, 0)) (by (with_reducible repeat (first | refine blk_drewN ?_ _ | refine blk_drew ?_ | refine blk_alloc ?_ _)); refine blk_far ?_ NB142_149.out _; (with_reducible repeat (first | refine blk_drewN ?_ _ | refine blk_drew ?_ | refine blk_alloc ?_ _)); exact BK142.out) NB142_145.out (by simp)); have n1_ := Aside0.mk (KeepBut.blk hk (g' := gb149) (o := .cells #[.string t146, .string t150] 28 (0, 0)) (by (with_reducible repeat (first | refine blk_drewN ?_ _ | refine blk_drew ?_ | refine blk_alloc ?_ _)); refine blk_put (cs := #[.string t146, .string (⟨#[]⟩ : ByteArray)]) ?_ 1 _ rfl; (with_reducible repeat (first | refine blk_drewN ?_ _ | refine blk_drew ?_ | refine blk_alloc ?_ _)); exact BK149.out) NB149_145.out (by simp)); have n2_ := Aside0.mk (hb); have n3_ := Aside0.mk (hi); clear BK142; clear BK149; clear HB; clear HI145; have BK142 := n0_; have BK149 := n1_; have HB := n2_; have HI145 := n3_; clear n0_ n1_ n2_ n3_; (try clear hb); (try clear hb2); (try clear hk); (try clear hi)) | ((with_reducible refine gate_callee (f := 38) rfl ?_); refine goesL_ (some 21) rfl rfl Tryd.func38 (by kernel_rfl) rfl #[.pointer (some ⟨g145, 0, none⟩)] rfl (by (try simp only [List.map_toArray, List.map_cons, List.map_nil]); first | done | rfl | (simp only [List.length_drop, List.length_take]; rfl)) ?_; (with_reducible refine (pack_Reader_End.calls g145 t154 t155 t156 t157 t158 w _ ?side1 ?side2 A6.out).mono ?_); (case side1 => repeat (first | (with_reducible first | exact HI145.out | apply IsS88.alloc | apply IsS88.drewN | apply IsS88.drew | apply IsS88.set_0 | apply IsS88.set_1 | refine IsS88.far ?_ NB145_142.out _ | refine IsS88.far ?_ NB145_149.out _) | exact HI145.out)); (case side2 => repeat (first | (with_reducible first | exact HB.out | apply below_alloc | apply pw_below_drewN | apply below_drew1 | refine below_set ?_ (IsS88.ge HI145.out) | refine below_set ?_ GE142.out | refine below_set ?_ GE149.out) | exact HB.out)); rintro e w19 ⟨rfl, hi, hb, hk⟩; refine ⟨_, rfl, ?_⟩; have n0_ := Aside0.mk (KeepBut.blk hk (g' := gb142) (o := .cells #[.string (⟨#[]⟩ : ByteArray), .string (⟨#[]⟩ : ByteArray)] 28 (0, 0)) (by (with_reducible repeat (first | refine blk_drewN ?_ _ | refine blk_drew ?_ | refine blk_alloc ?_ _)); exact BK142.out) NB142_145.out (by simp)); have n1_ := Aside0.mk (KeepBut.blk hk (g' := gb149) (o := .cells #[.string t146, .string t150] 28 (0, 0)) (by (with_reducible repeat (first | refine blk_drewN ?_ _ | refine blk_drew ?_ | refine blk_alloc ?_ _)); exact BK149.out) NB149_145.out (by simp)); have n2_ := Aside0.mk (hb); have n3_ := Aside0.mk (hi); clear BK142; clear BK149; clear HB; clear HI145; have BK142 := n0_; have BK149 := n1_; have HB := n2_; have HI145 := n3_; clear n0_ n1_ n2_ n3_; (try clear hb); (try clear hb2); (try clear hk); (try clear hi); have hnb20 := NB142_145.out; have hnc20 := NB145_142.out; have hcz21_0 : w19.cell? ⟨gb142, 0, none⟩ = some (.string (⟨#[]⟩ : ByteArray)) := (blk_cell BK142.out 0).trans rfl; have hcz21_1 : w19.cell? ⟨gb142, 1, none⟩ = some (.string (⟨#[]⟩ : ByteArray)) := (blk_cell BK142.out 1).trans rfl; have hfz21_0 := blk_frozen BK142.out 0; have hfz21_1 := blk_frozen BK142.out 1))
      refine bodyPost_ret (results_ctt rfl _ _ gb142 28 #[.string (⟨#[]⟩ : ByteArray), .string (⟨#[]⟩ : ByteArray)] (0, 0) _ rfl (by (with_reducible repeat (first | refine blk_drewN ?_ _ | refine blk_drew ?_ | refine blk_alloc ?_ _)); refine blk_put (cs := #[.string (⟨#[]⟩ : ByteArray), .string (⟨#[]⟩ : ByteArray)]) ?_ 1 _ rfl; (with_reducible repeat (first | refine blk_drewN ?_ _ | refine blk_drew ?_ | refine blk_alloc ?_ _)); refine blk_put (cs := #[.string (⟨#[]⟩ : ByteArray), .string (⟨#[]⟩ : ByteArray)]) ?_ 0 _ rfl; (with_reducible repeat (first | refine blk_drewN ?_ _ | refine blk_drew ?_ | refine blk_alloc ?_ _)); exact BK142.out) Tryd.underlying28 rfl (by kernel_rfl)) rfl ?_
      exact ⟨by first | rfl | (simp [errW_none, errW_some] <;> rfl) | (simp [*, errW_none, errW_some] <;> rfl), by repeat (first | (with_reducible first | exact HB.out | apply below_alloc | apply pw_below_drewN | apply below_drew1 | refine below_set ?_ (IsS88.ge HI145.out) | refine below_set ?_ GE142.out | refine below_set ?_ GE149.out) | exact HB.out)⟩
    · rw [if_neg c8] at H
      have c8b0 : decide ((t153.size : Int) < 32) = false := decide_eq_false c8
      have c8b1 : decide (t153.size < 32) = false := decide_eq_false (by omega)
      clear c8
      by_cases c22 : 0 ≤ 32
      · rw [if_pos c22] at H
        have c22b0 := eq_true c22
        have c22b1 : decide (0 ≤ 32) = true := decide_eq_true c22
        clear c22
        by_cases c23 : 32 ≤ (t153.size : Int)
        · rw [if_pos c23] at H
          have c23b0 := eq_true c23
          have c23b1 : decide (32 ≤ (t153.size : Int)) = true := decide_eq_true c23
          clear c23
          replace H := Option.bind_eq_some_iff.mp H
          obtain ⟨t159, A240, H⟩ := H
          replace H : (if (t153.extract 0 32).toList = t159.toList then ((needle_Check.f t146 t150).bind fun t160 => (if t160 = 0 then (some (t146, t150, t153.extract 32 t153.size, 0)) else (some ((⟨#[]⟩ : ByteArray), (⟨#[]⟩ : ByteArray), (⟨#[]⟩ : ByteArray), t160)))) else (some ((⟨#[]⟩ : ByteArray), (⟨#[]⟩ : ByteArray), (⟨#[]⟩ : ByteArray), 5))) = some (r1, r2, r3, r4) := H
          have A24 := Aside0.mk A240
          clear A240
          by_cases c25 : (t153.extract 0 32).toList = t159.toList
          · rw [if_pos c25] at H
            have c25b0 : ((t153.extract 0 32).toList == t159.toList) = true := beq_iff_eq.mpr c25
            have c25b1 : ((t153.extract 0 32).toList != t159.toList) = false := bne_eq_false_iff_eq.mpr c25
            clear c25
            replace H := Option.bind_eq_some_iff.mp H
            obtain ⟨t160, A260, H⟩ := H
            replace H : (if t160 = 0 then (some (t146, t150, t153.extract 32 t153.size, 0)) else (some ((⟨#[]⟩ : ByteArray), (⟨#[]⟩ : ByteArray), (⟨#[]⟩ : ByteArray), t160))) = some (r1, r2, r3, r4) := H
            have A26 := Aside0.mk A260
            clear A260
            by_cases c27 : t160 = 0
            · rw [if_pos c27] at H
              have c27b0 : (t160 == 0) = true := beq_iff_eq.mpr c27
              have c27b1 : (t160 != 0) = false := bne_eq_false_iff_eq.mpr c27
              clear c27
              have c28b0 := eq_true (of_decide_eq_true (by first | (with_reducible assumption) | assumption) : 32 ≤ (t153.size : Int))
              simp only [Option.some.injEq, Prod.mk.injEq] at H
              obtain ⟨rfl, rfl, rfl, rfl⟩ := H
              go_enter Tryd.func15, Tryd.ntmps15
              try go_wp2_with (first | ((with_reducible refine gate_dst (N := 2) rfl ?_); refine box_event ?hg (N := 2) ?hd (cs := #[.string (⟨#[]⟩ : ByteArray), .string (⟨#[]⟩ : ByteArray)]) (t := 28) ?hr ?_; (case hd => rfl); (case hg => rfl); (case hr => first | (go_simp; done) | (go_simp; rfl)); intro gb142 hg w29 hbox hb; have n0_ := Aside0.mk (below_step (by repeat (first | (with_reducible first | exact HB.out | apply below_alloc | apply pw_below_drewN | apply below_drew1) | exact HB.out)) hb); have n1_ := Aside0.mk (hbox); have n2_ := Aside0.mk ((by rw [hg]; exact (below_size (by repeat (first | (with_reducible first | exact HB.out | apply below_alloc | apply pw_below_drewN | apply below_drew1) | exact HB.out))) : w.heap.size ≤ gb142)); have n3_ := Aside0.mk ((by rw [hg]; exact (below_size (by repeat (first | (with_reducible first | exact HB.out | apply below_alloc | apply pw_below_drewN | apply below_drew1) | exact HB.out))) : w.heap.size ≤ gb142)); clear HB; have HB := n0_; have BK142 := n1_; have GW142 := n2_; have GE142 := n3_; clear n0_ n1_ n2_ n3_; clear hb hbox hg) | ((with_reducible refine gate_callee (f := 35) rfl ?_); refine goesL_ (some 11) rfl rfl Tryd.func35 (by kernel_rfl) rfl #[.string a0] rfl (by (try simp only [List.map_toArray, List.map_cons, List.map_nil]); first | done | rfl | (simp only [List.length_drop, List.length_take]; rfl)) ?_; (with_reducible refine (pack_Read.calls a0 t143 t144 w _ ?side1 A2.out).mono ?_); (case side1 => repeat (first | (with_reducible first | exact HB.out | apply below_alloc | apply pw_below_drewN | apply below_drew1 | refine below_set ?_ GE142.out) | exact HB.out)); rintro e w30 ⟨g145, rfl, hi, hb, hb2⟩; refine ⟨_, rfl, ?_⟩; have n0_ := Aside0.mk (blk_below (g := gb142) (o := .cells #[.string (⟨#[]⟩ : ByteArray), .string (⟨#[]⟩ : ByteArray)] 28 (0, 0)) (by (with_reducible repeat (first | refine blk_drewN ?_ _ | refine blk_drew ?_ | refine blk_alloc ?_ _)); exact BK142.out) hb2); have n1_ := Aside0.mk (hb); have n2_ := Aside0.mk (hi); have n3_ := Aside0.mk (IsS88.ne_blk hi (blk_below (g := gb142) (o := .cells #[.string (⟨#[]⟩ : ByteArray), .string (⟨#[]⟩ : ByteArray)] 28 (0, 0)) (by (with_reducible repeat (first | refine blk_drewN ?_ _ | refine blk_drew ?_ | refine blk_alloc ?_ _)); exact BK142.out) hb2) (by decide)); have n4_ := Aside0.mk (Ne.symm (IsS88.ne_blk hi (blk_below (g := gb142) (o := .cells #[.string (⟨#[]⟩ : ByteArray), .string (⟨#[]⟩ : ByteArray)] 28 (0, 0)) (by (with_reducible repeat (first | refine blk_drewN ?_ _ | refine blk_drew ?_ | refine blk_alloc ?_ _)); exact BK142.out) hb2) (by decide))); clear BK142; clear HB; have BK142 := n0_; have HB := n1_; have HI145 := n2_; have NB145_142 := n3_; have NB142_145 := n4_; clear n0_ n1_ n2_ n3_ n4_; (try clear hb); (try clear hb2); (try clear hk); (try clear hi)) | ((with_reducible refine gate_callee (f := 36) rfl ?_); refine goesL_ (some 13) rfl rfl Tryd.func36 (by kernel_rfl) rfl #[.pointer (some ⟨g145, 0, none⟩)] rfl (by (try simp only [List.map_toArray, List.map_cons, List.map_nil]); first | done | rfl | (simp only [List.length_drop, List.length_take]; rfl)) ?_; (with_reducible refine (pack_Reader_Text.calls k g145 t143 t144 t146 t147 t148 w _ ?side1 ?side2 A3.out).mono ?_); (case side1 => repeat (first | (with_reducible first | exact HI145.out | apply IsS88.alloc | apply IsS88.drewN | apply IsS88.drew | apply IsS88.set_0 | apply IsS88.set_1 | refine IsS88.far ?_ NB145_142.out _) | exact HI145.out)); (case side2 => repeat (first | (with_reducible first | exact HB.out | apply below_alloc | apply pw_below_drewN | apply below_drew1 | refine below_set ?_ (IsS88.ge HI145.out) | refine below_set ?_ GE142.out) | exact HB.out)); rintro e w31 ⟨rfl, hi, hb, hk⟩; refine ⟨_, rfl, ?_⟩; have n0_ := Aside0.mk (KeepBut.blk hk (g' := gb142) (o := .cells #[.string (⟨#[]⟩ : ByteArray), .string (⟨#[]⟩ : ByteArray)] 28 (0, 0)) (by (with_reducible repeat (first | refine blk_drewN ?_ _ | refine blk_drew ?_ | refine blk_alloc ?_ _)); exact BK142.out) NB142_145.out (by simp)); have n1_ := Aside0.mk (hb); have n2_ := Aside0.mk (hi); clear BK142; clear HB; clear HI145; have BK142 := n0_; have HB := n1_; have HI145 := n2_; clear n0_ n1_ n2_; (try clear hb); (try clear hb2); (try clear hk); (try clear hi)) | ((with_reducible refine gate_dst (N := 6) rfl ?_); refine box_event ?hg (N := 6) ?hd (cs := #[.string (⟨#[]⟩ : ByteArray), .string (⟨#[]⟩ : ByteArray)]) (t := 28) ?hr ?_; (case hd => rfl); (case hg => rfl); (case hr => first | (go_simp; done) | (go_simp; rfl)); intro gb149 hg w32 hbox hb; have n0_ := Aside0.mk (blk_below (g := gb142) (o := .cells #[.string (⟨#[]⟩ : ByteArray), .string (⟨#[]⟩ : ByteArray)] 28 (0, 0)) (by (with_reducible repeat (first | refine blk_drewN ?_ _ | refine blk_drew ?_ | refine blk_alloc ?_ _)); exact BK142.out) hb); have n1_ := Aside0.mk (IsS88.below (by repeat (first | (with_reducible first | exact HI145.out | apply IsS88.alloc | apply IsS88.drewN | apply IsS88.drew | apply IsS88.set_0 | apply IsS88.set_1 | refine IsS88.far ?_ NB145_142.out _) | exact HI145.out)) hb); have n2_ := Aside0.mk (below_step (by repeat (first | (with_reducible first | exact HB.out | apply below_alloc | apply pw_below_drewN | apply below_drew1 | refine below_set ?_ (IsS88.ge HI145.out) | refine below_set ?_ GE142.out) | exact HB.out)) hb); have n3_ := Aside0.mk (hbox); have n4_ := Aside0.mk ((by rw [hg]; exact (below_size (by repeat (first | (with_reducible first | exact HB.out | apply below_alloc | apply pw_below_drewN | apply below_drew1 | refine below_set ?_ (IsS88.ge HI145.out) | refine below_set ?_ GE142.out) | exact HB.out))) : w.heap.size ≤ gb149)); have n5_ := Aside0.mk ((by rw [hg]; exact (below_size (by repeat (first | (with_reducible first | exact HB.out | apply below_alloc | apply pw_below_drewN | apply below_drew1 | refine below_set ?_ (IsS88.ge HI145.out) | refine below_set ?_ GE142.out) | exact HB.out))) : w.heap.size ≤ gb149)); have n6_ := Aside0.mk ((by rw [hg]; exact Nat.ne_of_lt (blk_lt (g := gb142) (o := .cells #[.string (⟨#[]⟩ : ByteArray), .string (⟨#[]⟩ : ByteArray)] 28 (0, 0)) (by (with_reducible repeat (first | refine blk_drewN ?_ _ | refine blk_drew ?_ | refine blk_alloc ?_ _)); exact BK142.out)) : gb142 ≠ gb149)); have n7_ := Aside0.mk ((by rw [hg]; exact Nat.ne_of_gt (blk_lt (g := gb142) (o := .cells #[.string (⟨#[]⟩ : ByteArray), .string (⟨#[]⟩ : ByteArray)] 28 (0, 0)) (by (with_reducible repeat (first | refine blk_drewN ?_ _ | refine blk_drew ?_ | refine blk_alloc ?_ _)); exact BK142.out)) : gb149 ≠ gb142)); have n8_ := Aside0.mk ((by rw [hg]; exact Nat.ne_of_lt (IsS88.lt (show IsS88 w _ g145 t147 t148 from by repeat (first | (with_reducible first | exact HI145.out | apply IsS88.alloc | apply IsS88.drewN | apply IsS88.drew | apply IsS88.set_0 | apply IsS88.set_1 | refine IsS88.far ?_ NB145_142.out _) | exact HI145.out))) : g145 ≠ gb149)); have n9_ := Aside0.mk ((by rw [hg]; exact Nat.ne_of_gt (IsS88.lt (show IsS88 w _ g145 t147 t148 from by repeat (first | (with_reducible first | exact HI145.out | apply IsS88.alloc | apply IsS88.drewN | apply IsS88.drew | apply IsS88.set_0 | apply IsS88.set_1 | refine IsS88.far ?_ NB145_142.out _) | exact HI145.out))) : gb149 ≠ g145)); clear BK142; clear HI145; clear HB; have BK142 := n0_; have HI145 := n1_; have HB := n2_; have BK149 := n3_; have GW149 := n4_; have GE149 := n5_; have NB142_149 := n6_; have NB149_142 := n7_; have NB145_149 := n8_; have NB149_145 := n9_; clear n0_ n1_ n2_ n3_ n4_ n5_ n6_ n7_ n8_ n9_; clear hb hbox hg; have hnb33 := NB149_142.out; have hnc33 := NB142_149.out; have hnb34 := NB149_145.out; have hnc34 := NB145_149.out; have hcz35_0 : w32.cell? ⟨gb149, 0, none⟩ = some (.string (⟨#[]⟩ : ByteArray)) := (blk_cell BK149.out 0).trans rfl; have hcz35_1 : w32.cell? ⟨gb149, 1, none⟩ = some (.string (⟨#[]⟩ : ByteArray)) := (blk_cell BK149.out 1).trans rfl; have hfz35_0 := blk_frozen BK149.out 0; have hfz35_1 := blk_frozen BK149.out 1) | ((with_reducible refine gate_callee (f := 36) rfl ?_); refine goesL_ (some 16) rfl rfl Tryd.func36 (by kernel_rfl) rfl #[.pointer (some ⟨g145, 0, none⟩)] rfl (by (try simp only [List.map_toArray, List.map_cons, List.map_nil]); first | done | rfl | (simp only [List.length_drop, List.length_take]; rfl)) ?_; (with_reducible refine (pack_Reader_Text.calls k g145 t147 t148 t150 t151 t152 w _ ?side1 ?side2 A4.out).mono ?_); (case side1 => repeat (first | (with_reducible first | exact HI145.out | apply IsS88.alloc | apply IsS88.drewN | apply IsS88.drew | apply IsS88.set_0 | apply IsS88.set_1 | refine IsS88.far ?_ NB145_142.out _ | refine IsS88.far ?_ NB145_149.out _) | exact HI145.out)); (case side2 => repeat (first | (with_reducible first | exact HB.out | apply below_alloc | apply pw_below_drewN | apply below_drew1 | refine below_set ?_ (IsS88.ge HI145.out) | refine below_set ?_ GE142.out | refine below_set ?_ GE149.out) | exact HB.out)); rintro e w36 ⟨rfl, hi, hb, hk⟩; refine ⟨_, rfl, ?_⟩; have n0_ := Aside0.mk (KeepBut.blk hk (g' := gb142) (o := .cells #[.string (⟨#[]⟩ : ByteArray), .string (⟨#[]⟩ : ByteArray)] 28 (0, 0)) (by (with_reducible repeat (first | refine blk_drewN ?_ _ | refine blk_drew ?_ | refine blk_alloc ?_ _)); refine blk_far ?_ NB142_149.out _; (with_reducible repeat (first | refine blk_drewN ?_ _ | refine blk_drew ?_ | refine blk_alloc ?_ _)); refine blk_far ?_ NB142_149.out _; (with_reducible repeat (first | refine blk_drewN ?_ _ | refine blk_drew ?_ | refine blk_alloc ?_ _)); exact BK142.out) NB142_145.out (by simp)); have n1_ := Aside0.mk (KeepBut.blk hk (g' := gb149) (o := .cells #[.string t146, .string (⟨#[]⟩ : ByteArray)] 28 (0, 0)) (by (with_reducible repeat (first | refine blk_drewN ?_ _ | refine blk_drew ?_ | refine blk_alloc ?_ _)); refine blk_put (cs := #[.string t146, .string (⟨#[]⟩ : ByteArray)]) ?_ 1 _ rfl; (with_reducible repeat (first | refine blk_drewN ?_ _ | refine blk_drew ?_ | refine blk_alloc ?_ _)); refine blk_put (cs := #[.string (⟨#[]⟩ : ByteArray), .string (⟨#[]⟩ : ByteArray)]) ?_ 0 _ rfl; (with_reducible repeat (first | refine blk_drewN ?_ _ | refine blk_drew ?_ | refine blk_alloc ?_ _)); exact BK149.out) NB149_145.out (by simp)); have n2_ := Aside0.mk (hb); have n3_ := Aside0.mk (hi); clear BK142; clear BK149; clear HB; clear HI145; have BK142 := n0_; have BK149 := n1_; have HB := n2_; have HI145 := n3_; clear n0_ n1_ n2_ n3_; (try clear hb); (try clear hb2); (try clear hk); (try clear hi); have hcz37_0 : w36.cell? ⟨gb149, 0, none⟩ = some (.string t146) := (blk_cell BK149.out 0).trans rfl; have hcz37_1 : w36.cell? ⟨gb149, 1, none⟩ = some (.string (⟨#[]⟩ : ByteArray)) := (blk_cell BK149.out 1).trans rfl; have hfz37_0 := blk_frozen BK149.out 0; have hfz37_1 := blk_frozen BK149.out 1) | ((with_reducible refine gate_callee (f := 37) rfl ?_); refine goesL_ (some 19) rfl rfl Tryd.func37 (by kernel_rfl) rfl #[.pointer (some ⟨g145, 0, none⟩)] rfl (by (try simp only [List.map_toArray, List.map_cons, List.map_nil]); first | done | rfl | (simp only [List.length_drop, List.length_take]; rfl)) ?_; (with_reducible refine (pack_Reader_Rest.calls g145 t151 t152 t153 t154 t155 w _ ?side1 ?side2 A5.out).mono ?_); (case side1 => repeat (first | (with_reducible first | exact HI145.out | apply IsS88.alloc | apply IsS88.drewN | apply IsS88.drew | apply IsS88.set_0 | apply IsS88.set_1 | refine IsS88.far ?_ NB145_142.out _ | refine IsS88.far ?_ NB145_149.out _) | exact HI145.out)); (case side2 => repeat (first | (with_reducible first | exact HB.out | apply below_alloc | apply pw_below_drewN | apply below_drew1 | refine below_set ?_ (IsS88.ge HI145.out) | refine below_set ?_ GE142.out | refine below_set ?_ GE149.out) | exact HB.out)); rintro e w38 ⟨rfl, hi, hb, hk⟩; refine ⟨_, rfl, ?_⟩; have n0_ := Aside0.mk (KeepBut.blk hk (g' := gb142) (o := .cells #[.string (⟨#[]⟩ : ByteArray), .string (⟨#[]⟩ : ByteArray)] 28 (0, 0)) (by (with_reducible repeat (first | refine blk_drewN ?_ _ | refine blk_drew ?_ | refine blk_alloc ?_ _)); refine blk_far ?_ NB142_149.out _; (with_reducible repeat (first | refine blk_drewN ?_ _ | refine blk_drew ?_ | refine blk_alloc ?_ _)); exact BK142.out) NB142_145.out (by simp)); have n1_ := Aside0.mk (KeepBut.blk hk (g' := gb149) (o := .cells #[.string t146, .string t150] 28 (0, 0)) (by (with_reducible repeat (first | refine blk_drewN ?_ _ | refine blk_drew ?_ | refine blk_alloc ?_ _)); refine blk_put (cs := #[.string t146, .string (⟨#[]⟩ : ByteArray)]) ?_ 1 _ rfl; (with_reducible repeat (first | refine blk_drewN ?_ _ | refine blk_drew ?_ | refine blk_alloc ?_ _)); exact BK149.out) NB149_145.out (by simp)); have n2_ := Aside0.mk (hb); have n3_ := Aside0.mk (hi); clear BK142; clear BK149; clear HB; clear HI145; have BK142 := n0_; have BK149 := n1_; have HB := n2_; have HI145 := n3_; clear n0_ n1_ n2_ n3_; (try clear hb); (try clear hb2); (try clear hk); (try clear hi)) | ((with_reducible refine gate_callee (f := 38) rfl ?_); refine goesL_ (some 21) rfl rfl Tryd.func38 (by kernel_rfl) rfl #[.pointer (some ⟨g145, 0, none⟩)] rfl (by (try simp only [List.map_toArray, List.map_cons, List.map_nil]); first | done | rfl | (simp only [List.length_drop, List.length_take]; rfl)) ?_; (with_reducible refine (pack_Reader_End.calls g145 t154 t155 t156 t157 t158 w _ ?side1 ?side2 A6.out).mono ?_); (case side1 => repeat (first | (with_reducible first | exact HI145.out | apply IsS88.alloc | apply IsS88.drewN | apply IsS88.drew | apply IsS88.set_0 | apply IsS88.set_1 | refine IsS88.far ?_ NB145_142.out _ | refine IsS88.far ?_ NB145_149.out _) | exact HI145.out)); (case side2 => repeat (first | (with_reducible first | exact HB.out | apply below_alloc | apply pw_below_drewN | apply below_drew1 | refine below_set ?_ (IsS88.ge HI145.out) | refine below_set ?_ GE142.out | refine below_set ?_ GE149.out) | exact HB.out)); rintro e w39 ⟨rfl, hi, hb, hk⟩; refine ⟨_, rfl, ?_⟩; have n0_ := Aside0.mk (KeepBut.blk hk (g' := gb142) (o := .cells #[.string (⟨#[]⟩ : ByteArray), .string (⟨#[]⟩ : ByteArray)] 28 (0, 0)) (by (with_reducible repeat (first | refine blk_drewN ?_ _ | refine blk_drew ?_ | refine blk_alloc ?_ _)); exact BK142.out) NB142_145.out (by simp)); have n1_ := Aside0.mk (KeepBut.blk hk (g' := gb149) (o := .cells #[.string t146, .string t150] 28 (0, 0)) (by (with_reducible repeat (first | refine blk_drewN ?_ _ | refine blk_drew ?_ | refine blk_alloc ?_ _)); exact BK149.out) NB149_145.out (by simp)); have n2_ := Aside0.mk (hb); have n3_ := Aside0.mk (hi); clear BK142; clear BK149; clear HB; clear HI145; have BK142 := n0_; have BK149 := n1_; have HB := n2_; have HI145 := n3_; clear n0_ n1_ n2_ n3_; (try clear hb); (try clear hb2); (try clear hk); (try clear hi)))
              have n0_ := Aside0.mk (blk_drew BK142.out)
              have n1_ := Aside0.mk (blk_drew BK149.out)
              have n2_ := Aside0.mk (IsS88.drew HI145.out)
              have n3_ := Aside0.mk (below_drew1 HB.out)
              clear BK142
              clear BK149
              clear HI145
              clear HB
              have BK142 := n0_
              have BK149 := n1_
              have HI145 := n2_
              have HB := n3_
              clear n0_ n1_ n2_ n3_
              refine start_ (n := 6) (S := fun w' => w'.cell? ⟨gb149, 0, none⟩ = some (.string t146) ∧ w'.cell? ⟨gb149, 1, none⟩ = some (.string t150)) (ds := []) #[false, false, false, false, false, false] (by kernel_rfl) rfl rfl ⟨(blk_cell BK149.out 0).trans rfl, (blk_cell BK149.out 1).trans rfl⟩ (fun hHeld => ?_)
              generalize w39.drew = w40 at BK142 BK149 HI145 HB hHeld ⊢
              refine pure_ (i := 0) (N := some 30) (v := ?_) (a' := ?_) #[true, false, false, false, false, false] rfl rfl (by kernel_rfl) (fun _ _ _ h => h) (Or.inl ⟨by rfl, ?_⟩) ?_ ?_
              rotate_left
              · intro w'
                go_simp
                with_reducible rfl
              rotate_left
              · simp only [Act.put, List.setIfInBounds_toArray, List.set_cons_zero, List.set_cons_succ, i64_w, i32_w]
                rfl
              refine pure_ (i := 1) (N := some 31) (v := ?_) (a' := ?_) #[true, true, false, false, false, false] rfl rfl (by kernel_rfl) (fun _ _ _ h => h) (Or.inl ⟨by rfl, ?_⟩) ?_ ?_
              rotate_left
              · intro w'
                go_simp
                with_reducible rfl
              rotate_left
              · simp only [Act.put, List.setIfInBounds_toArray, List.set_cons_zero, List.set_cons_succ, i64_w, i32_w]
                rfl
              refine pure_ (i := 2) (N := some 32) (v := ?_) (a' := ?_) #[true, true, true, false, false, false] rfl rfl (by kernel_rfl) (fun _ _ _ h => h) (Or.inl ⟨by rfl, ?_⟩) ?_ ?_
              rotate_left
              · intro w'
                go_simp
                with_reducible rfl
              rotate_left
              · simp only [Act.put, List.setIfInBounds_toArray, List.set_cons_zero, List.set_cons_succ, i64_w, i32_w]
                rfl
              refine take_ (i := 3) (N := some 33) (v := ?_) (a' := ?_) #[true, true, true, true, false, false] rfl rfl (by kernel_rfl) (fun _ _ _ h => h) (Or.inl ⟨by rfl, ?_⟩) hHeld ?_ ?_
              rotate_left
              · rintro w' ⟨s0, s1⟩
                go_simp
                with_reducible rfl
              rotate_left
              · simp only [Act.put, List.setIfInBounds_toArray, List.set_cons_zero, List.set_cons_succ, i64_w, i32_w]
                rfl
              refine one_ (i := 4) (N := some 34) #[true, true, true, true, true, false] rfl rfl (by kernel_rfl) (by decide) (fun K hK => ?_)
              refine goes_ Tryd.func29 (by kernel_rfl) rfl #[.string t150] (by rfl) rfl rfl (by (try simp only [List.map_toArray, List.map_cons, List.map_nil]); first | done | rfl | (simp only [List.length_drop, List.length_take]; rfl)) ?_
              with_reducible refine (digest_Sum.calls t150 t159 _ A24.out).mono ?_
              rintro e w41 ⟨rfl, hb⟩
              refine ⟨_, rfl, ?_⟩
              have n0_ := Aside0.mk (blk_below (g := gb142) (o := .cells #[.string (⟨#[]⟩ : ByteArray), .string (⟨#[]⟩ : ByteArray)] 28 (0, 0)) (by (with_reducible repeat (first | refine blk_drewN ?_ _ | refine blk_drew ?_ | refine blk_alloc ?_ _)); exact BK142.out) hb)
              have n1_ := Aside0.mk (IsS88.below (by repeat (first | (with_reducible first | exact HI145.out | apply IsS88.alloc | apply IsS88.drewN | apply IsS88.drew | apply IsS88.set_0 | apply IsS88.set_1 | refine IsS88.far ?_ NB145_142.out _ | refine IsS88.far ?_ NB145_149.out _) | exact HI145.out)) hb)
              have n2_ := Aside0.mk (blk_below (g := gb149) (o := .cells #[.string t146, .string t150] 28 (0, 0)) (by (with_reducible repeat (first | refine blk_drewN ?_ _ | refine blk_drew ?_ | refine blk_alloc ?_ _)); exact BK149.out) hb)
              have n3_ := Aside0.mk (below_step (by repeat (first | (with_reducible first | exact HB.out | apply below_alloc | apply pw_below_drewN | apply below_drew1 | refine below_set ?_ (IsS88.ge HI145.out) | refine below_set ?_ GE142.out | refine below_set ?_ GE149.out) | exact HB.out)) hb)
              clear BK142
              clear HI145
              clear BK149
              clear HB
              have BK142 := n0_
              have HI145 := n1_
              have BK149 := n2_
              have HB := n3_
              clear n0_ n1_ n2_ n3_
              (try clear hb)
              (try clear hb2)
              (try clear hk)
              (try clear hi)
              refine hK.out _ _ ⟨(blk_cell BK149.out 0).trans rfl, (blk_cell BK149.out 1).trans rfl⟩ (fun hHeld => ?_)
              clear hK K
              refine norm_ (a' := ?_) ?_ ?_
              rotate_left
              · show Act.put _ (some 34) _ = _
                simp only [Act.put, List.setIfInBounds_toArray, List.set_cons_zero, List.set_cons_succ, i64_w, i32_w]
                rfl
              refine pure_ (i := 5) (N := some 35) (v := ?_) (a' := ?_) #[true, true, true, true, true, true] rfl rfl (by kernel_rfl) (fun _ _ _ h => h) (Or.inl ⟨by rfl, ?_⟩) ?_ ?_
              rotate_left
              · intro w'
                go_simp
                with_reducible rfl
              rotate_left
              · simp only [Act.put, List.setIfInBounds_toArray, List.set_cons_zero, List.set_cons_succ, i64_w, i32_w]
                rfl
              refine done_ (by kernel_rfl) ?_
              have hcz42_0 : w41.cell? ⟨gb149, 0, none⟩ = some (.string t146) := (blk_cell BK149.out 0).trans rfl
              have hcz42_1 : w41.cell? ⟨gb149, 1, none⟩ = some (.string t150) := (blk_cell BK149.out 1).trans rfl
              have hfz42_0 := blk_frozen BK149.out 0
              have hfz42_1 := blk_frozen BK149.out 1
              try go_wp2_with (first | ((with_reducible refine gate_callee (f := 13) rfl ?_); refine goesL_ (some 38) rfl rfl Tryd.func13 (by kernel_rfl) rfl #[.agg #[.string t146, .string t150]] rfl (by (try simp only [List.map_toArray, List.map_cons, List.map_nil]); first | done | rfl | (simp only [List.length_drop, List.length_take]; rfl)) ?_; (with_reducible refine (needle_Check.calls t146 t150 t160 _ A26.out).mono ?_); rintro e w43 ⟨rfl, hb⟩; refine ⟨_, rfl, ?_⟩; have n0_ := Aside0.mk (blk_below (g := gb142) (o := .cells #[.string (⟨#[]⟩ : ByteArray), .string (⟨#[]⟩ : ByteArray)] 28 (0, 0)) (by (with_reducible repeat (first | refine blk_drewN ?_ _ | refine blk_drew ?_ | refine blk_alloc ?_ _)); exact BK142.out) hb); have n1_ := Aside0.mk (IsS88.below (by repeat (first | (with_reducible first | exact HI145.out | apply IsS88.alloc | apply IsS88.drewN | apply IsS88.drew | apply IsS88.set_0 | apply IsS88.set_1 | refine IsS88.far ?_ NB145_142.out _ | refine IsS88.far ?_ NB145_149.out _) | exact HI145.out)) hb); have n2_ := Aside0.mk (blk_below (g := gb149) (o := .cells #[.string t146, .string t150] 28 (0, 0)) (by (with_reducible repeat (first | refine blk_drewN ?_ _ | refine blk_drew ?_ | refine blk_alloc ?_ _)); exact BK149.out) hb); have n3_ := Aside0.mk (below_step (by repeat (first | (with_reducible first | exact HB.out | apply below_alloc | apply pw_below_drewN | apply below_drew1 | refine below_set ?_ (IsS88.ge HI145.out) | refine below_set ?_ GE142.out | refine below_set ?_ GE149.out) | exact HB.out)) hb); clear BK142; clear HI145; clear BK149; clear HB; have BK142 := n0_; have HI145 := n1_; have BK149 := n2_; have HB := n3_; clear n0_ n1_ n2_ n3_; (try clear hb); (try clear hb2); (try clear hk); (try clear hi)))
              have n0_ := Aside0.mk (blk_drew BK142.out)
              have n1_ := Aside0.mk (blk_drew BK149.out)
              have n2_ := Aside0.mk (IsS88.drew HI145.out)
              have n3_ := Aside0.mk (below_drew1 HB.out)
              clear BK142
              clear BK149
              clear HI145
              clear HB
              have BK142 := n0_
              have BK149 := n1_
              have HI145 := n2_
              have HB := n3_
              clear n0_ n1_ n2_ n3_
              refine start_ (n := 6) (S := fun w' => w'.cell? ⟨gb149, 0, none⟩ = some (.string t146) ∧ w'.cell? ⟨gb149, 1, none⟩ = some (.string t150)) (ds := []) #[false, false, false, false, false, false] (by kernel_rfl) rfl rfl ⟨(blk_cell BK149.out 0).trans rfl, (blk_cell BK149.out 1).trans rfl⟩ (fun hHeld => ?_)
              generalize w43.drew = w44 at BK142 BK149 HI145 HB hHeld ⊢
              refine pure_ (i := 1) (N := some 44) (v := ?_) (a' := ?_) #[false, true, false, false, false, false] rfl rfl (by kernel_rfl) (fun _ _ _ h => h) (Or.inl ⟨by rfl, ?_⟩) ?_ ?_
              rotate_left
              · intro w'
                go_simp
                with_reducible rfl
              rotate_left
              · simp only [Act.put, List.setIfInBounds_toArray, List.set_cons_zero, List.set_cons_succ, i64_w, i32_w]
                rfl
              refine pure_ (i := 2) (N := some 45) (v := ?_) (a' := ?_) #[false, true, true, false, false, false] rfl rfl (by kernel_rfl) (fun _ _ _ h => h) (Or.inl ⟨by rfl, ?_⟩) ?_ ?_
              rotate_left
              · intro w'
                go_simp
                with_reducible rfl
              rotate_left
              · simp only [Act.put, List.setIfInBounds_toArray, List.set_cons_zero, List.set_cons_succ, i64_w, i32_w]
                rfl
              refine take_ (i := 0) (N := some 43) (v := ?_) (a' := ?_) #[true, true, true, false, false, false] rfl rfl (by kernel_rfl) (fun _ _ _ h => h) (Or.inl ⟨by rfl, ?_⟩) hHeld ?_ ?_
              rotate_left
              · rintro w' ⟨s0, s1⟩
                go_simp
                with_reducible rfl
              rotate_left
              · simp only [Act.put, List.setIfInBounds_toArray, List.set_cons_zero, List.set_cons_succ, i64_w, i32_w]
                rfl
              refine one_ (i := 3) (N := none) #[true, true, true, true, false, false] rfl rfl (by kernel_rfl) (by decide) (fun K hK => ?_)
              have hs45 : w44.cell? ⟨gb142, 0, none⟩ = some (.string (⟨#[]⟩ : ByteArray)) := (blk_cell BK142.out 0).trans rfl
              have hfs45 := blk_frozen BK142.out 0
              have hns45_1 := NB149_142.out
              have hms45_1 := NB142_149.out
              have hs46 : w44.cell? ⟨gb142, 1, none⟩ = some (.string (⟨#[]⟩ : ByteArray)) := (blk_cell BK142.out 1).trans rfl
              have hfs46 := blk_frozen BK142.out 1
              have hns46_1 := NB149_142.out
              have hms46_1 := NB142_149.out
              refine skip_ (w1 := ?_) (by rfl) rfl ?_ ?_
              rotate_left
              · go_simp
                rfl
              refine hK.out _ _ ⟨((cell_far (p := ⟨gb142, _, none⟩) NB149_142.out _).trans (((cell_far (p := ⟨gb142, _, none⟩) NB149_142.out _).trans (hHeld.1)))), ((cell_far (p := ⟨gb142, _, none⟩) NB149_142.out _).trans (((cell_far (p := ⟨gb142, _, none⟩) NB149_142.out _).trans (hHeld.2))))⟩ (fun hHeld => ?_)
              clear hK K
              refine pure_ (i := 4) (N := some 3) (v := ?_) (a' := ?_) #[true, true, true, true, true, false] rfl rfl (by kernel_rfl) (fun _ _ _ h => h) (Or.inl ⟨by rfl, ?_⟩) ?_ ?_
              rotate_left
              · intro w'
                go_simp
                with_reducible rfl
              rotate_left
              · simp only [Act.put, List.setIfInBounds_toArray, List.set_cons_zero, List.set_cons_succ, i64_w, i32_w]
                rfl
              refine pure_ (i := 5) (N := some 4) (v := ?_) (a' := ?_) #[true, true, true, true, true, true] rfl rfl (by kernel_rfl) (fun _ _ _ h => h) (Or.inl ⟨by rfl, ?_⟩) ?_ ?_
              rotate_left
              · intro w'
                go_simp
                with_reducible rfl
              rotate_left
              · simp only [Act.put, List.setIfInBounds_toArray, List.set_cons_zero, List.set_cons_succ, i64_w, i32_w]
                rfl
              refine done_ (by kernel_rfl) ?_
              try go_wp2
              refine bodyPost_ret (results_ctt rfl _ _ gb142 28 #[.string t146, .string t150] (0, 0) _ rfl (by (with_reducible repeat (first | refine blk_drewN ?_ _ | refine blk_drew ?_ | refine blk_alloc ?_ _)); refine blk_put (cs := #[.string t146, .string (⟨#[]⟩ : ByteArray)]) ?_ 1 _ rfl; (with_reducible repeat (first | refine blk_drewN ?_ _ | refine blk_drew ?_ | refine blk_alloc ?_ _)); refine blk_put (cs := #[.string (⟨#[]⟩ : ByteArray), .string (⟨#[]⟩ : ByteArray)]) ?_ 0 _ rfl; (with_reducible repeat (first | refine blk_drewN ?_ _ | refine blk_drew ?_ | refine blk_alloc ?_ _)); exact BK142.out) Tryd.underlying28 rfl (by kernel_rfl)) rfl ?_
              exact ⟨by first | rfl | (simp [errW_none, errW_some] <;> rfl) | (simp [*, errW_none, errW_some] <;> rfl), by repeat (first | (with_reducible first | exact HB.out | apply below_alloc | apply pw_below_drewN | apply below_drew1 | refine below_set ?_ (IsS88.ge HI145.out) | refine below_set ?_ GE142.out | refine below_set ?_ GE149.out) | exact HB.out)⟩
            · rw [if_neg c27] at H
              have c27b0 : (t160 == 0) = false := beq_eq_false_iff_ne.mpr c27
              have c27b1 : (t160 != 0) = true := bne_iff_ne.mpr c27
              simp only [Option.some.injEq, Prod.mk.injEq] at H
              obtain ⟨rfl, rfl, rfl, rfl⟩ := H
              go_enter Tryd.func15, Tryd.ntmps15
              try go_wp2_with (first | ((with_reducible refine gate_dst (N := 2) rfl ?_); refine box_event ?hg (N := 2) ?hd (cs := #[.string (⟨#[]⟩ : ByteArray), .string (⟨#[]⟩ : ByteArray)]) (t := 28) ?hr ?_; (case hd => rfl); (case hg => rfl); (case hr => first | (go_simp; done) | (go_simp; rfl)); intro gb142 hg w47 hbox hb; have n0_ := Aside0.mk (below_step (by repeat (first | (with_reducible first | exact HB.out | apply below_alloc | apply pw_below_drewN | apply below_drew1) | exact HB.out)) hb); have n1_ := Aside0.mk (hbox); have n2_ := Aside0.mk ((by rw [hg]; exact (below_size (by repeat (first | (with_reducible first | exact HB.out | apply below_alloc | apply pw_below_drewN | apply below_drew1) | exact HB.out))) : w.heap.size ≤ gb142)); have n3_ := Aside0.mk ((by rw [hg]; exact (below_size (by repeat (first | (with_reducible first | exact HB.out | apply below_alloc | apply pw_below_drewN | apply below_drew1) | exact HB.out))) : w.heap.size ≤ gb142)); clear HB; have HB := n0_; have BK142 := n1_; have GW142 := n2_; have GE142 := n3_; clear n0_ n1_ n2_ n3_; clear hb hbox hg) | ((with_reducible refine gate_callee (f := 35) rfl ?_); refine goesL_ (some 11) rfl rfl Tryd.func35 (by kernel_rfl) rfl #[.string a0] rfl (by (try simp only [List.map_toArray, List.map_cons, List.map_nil]); first | done | rfl | (simp only [List.length_drop, List.length_take]; rfl)) ?_; (with_reducible refine (pack_Read.calls a0 t143 t144 w _ ?side1 A2.out).mono ?_); (case side1 => repeat (first | (with_reducible first | exact HB.out | apply below_alloc | apply pw_below_drewN | apply below_drew1 | refine below_set ?_ GE142.out) | exact HB.out)); rintro e w48 ⟨g145, rfl, hi, hb, hb2⟩; refine ⟨_, rfl, ?_⟩; have n0_ := Aside0.mk (blk_below (g := gb142) (o := .cells #[.string (⟨#[]⟩ : ByteArray), .string (⟨#[]⟩ : ByteArray)] 28 (0, 0)) (by (with_reducible repeat (first | refine blk_drewN ?_ _ | refine blk_drew ?_ | refine blk_alloc ?_ _)); exact BK142.out) hb2); have n1_ := Aside0.mk (hb); have n2_ := Aside0.mk (hi); have n3_ := Aside0.mk (IsS88.ne_blk hi (blk_below (g := gb142) (o := .cells #[.string (⟨#[]⟩ : ByteArray), .string (⟨#[]⟩ : ByteArray)] 28 (0, 0)) (by (with_reducible repeat (first | refine blk_drewN ?_ _ | refine blk_drew ?_ | refine blk_alloc ?_ _)); exact BK142.out) hb2) (by decide)); have n4_ := Aside0.mk (Ne.symm (IsS88.ne_blk hi (blk_below (g := gb142) (o := .cells #[.string (⟨#[]⟩ : ByteArray), .string (⟨#[]⟩ : ByteArray)] 28 (0, 0)) (by (with_reducible repeat (first | refine blk_drewN ?_ _ | refine blk_drew ?_ | refine blk_alloc ?_ _)); exact BK142.out) hb2) (by decide))); clear BK142; clear HB; have BK142 := n0_; have HB := n1_; have HI145 := n2_; have NB145_142 := n3_; have NB142_145 := n4_; clear n0_ n1_ n2_ n3_ n4_; (try clear hb); (try clear hb2); (try clear hk); (try clear hi)) | ((with_reducible refine gate_callee (f := 36) rfl ?_); refine goesL_ (some 13) rfl rfl Tryd.func36 (by kernel_rfl) rfl #[.pointer (some ⟨g145, 0, none⟩)] rfl (by (try simp only [List.map_toArray, List.map_cons, List.map_nil]); first | done | rfl | (simp only [List.length_drop, List.length_take]; rfl)) ?_; (with_reducible refine (pack_Reader_Text.calls k g145 t143 t144 t146 t147 t148 w _ ?side1 ?side2 A3.out).mono ?_); (case side1 => repeat (first | (with_reducible first | exact HI145.out | apply IsS88.alloc | apply IsS88.drewN | apply IsS88.drew | apply IsS88.set_0 | apply IsS88.set_1 | refine IsS88.far ?_ NB145_142.out _) | exact HI145.out)); (case side2 => repeat (first | (with_reducible first | exact HB.out | apply below_alloc | apply pw_below_drewN | apply below_drew1 | refine below_set ?_ (IsS88.ge HI145.out) | refine below_set ?_ GE142.out) | exact HB.out)); rintro e w49 ⟨rfl, hi, hb, hk⟩; refine ⟨_, rfl, ?_⟩; have n0_ := Aside0.mk (KeepBut.blk hk (g' := gb142) (o := .cells #[.string (⟨#[]⟩ : ByteArray), .string (⟨#[]⟩ : ByteArray)] 28 (0, 0)) (by (with_reducible repeat (first | refine blk_drewN ?_ _ | refine blk_drew ?_ | refine blk_alloc ?_ _)); exact BK142.out) NB142_145.out (by simp)); have n1_ := Aside0.mk (hb); have n2_ := Aside0.mk (hi); clear BK142; clear HB; clear HI145; have BK142 := n0_; have HB := n1_; have HI145 := n2_; clear n0_ n1_ n2_; (try clear hb); (try clear hb2); (try clear hk); (try clear hi)) | ((with_reducible refine gate_dst (N := 6) rfl ?_); refine box_event ?hg (N := 6) ?hd (cs := #[.string (⟨#[]⟩ : ByteArray), .string (⟨#[]⟩ : ByteArray)]) (t := 28) ?hr ?_; (case hd => rfl); (case hg => rfl); (case hr => first | (go_simp; done) | (go_simp; rfl)); intro gb149 hg w50 hbox hb; have n0_ := Aside0.mk (blk_below (g := gb142) (o := .cells #[.string (⟨#[]⟩ : ByteArray), .string (⟨#[]⟩ : ByteArray)] 28 (0, 0)) (by (with_reducible repeat (first | refine blk_drewN ?_ _ | refine blk_drew ?_ | refine blk_alloc ?_ _)); exact BK142.out) hb); have n1_ := Aside0.mk (IsS88.below (by repeat (first | (with_reducible first | exact HI145.out | apply IsS88.alloc | apply IsS88.drewN | apply IsS88.drew | apply IsS88.set_0 | apply IsS88.set_1 | refine IsS88.far ?_ NB145_142.out _) | exact HI145.out)) hb); have n2_ := Aside0.mk (below_step (by repeat (first | (with_reducible first | exact HB.out | apply below_alloc | apply pw_below_drewN | apply below_drew1 | refine below_set ?_ (IsS88.ge HI145.out) | refine below_set ?_ GE142.out) | exact HB.out)) hb); have n3_ := Aside0.mk (hbox); have n4_ := Aside0.mk ((by rw [hg]; exact (below_size (by repeat (first | (with_reducible first | exact HB.out | apply below_alloc | apply pw_below_drewN | apply below_drew1 | refine below_set ?_ (IsS88.ge HI145.out) | refine below_set ?_ GE142.out) | exact HB.out))) : w.heap.size ≤ gb149)); have n5_ := Aside0.mk ((by rw [hg]; exact (below_size (by repeat (first | (with_reducible first | exact HB.out | apply below_alloc | apply pw_below_drewN | apply below_drew1 | refine below_set ?_ (IsS88.ge HI145.out) | refine below_set ?_ GE142.out) | exact HB.out))) : w.heap.size ≤ gb149)); have n6_ := Aside0.mk ((by rw [hg]; exact Nat.ne_of_lt (blk_lt (g := gb142) (o := .cells #[.string (⟨#[]⟩ : ByteArray), .string (⟨#[]⟩ : ByteArray)] 28 (0, 0)) (by (with_reducible repeat (first | refine blk_drewN ?_ _ | refine blk_drew ?_ | refine blk_alloc ?_ _)); exact BK142.out)) : gb142 ≠ gb149)); have n7_ := Aside0.mk ((by rw [hg]; exact Nat.ne_of_gt (blk_lt (g := gb142) (o := .cells #[.string (⟨#[]⟩ : ByteArray), .string (⟨#[]⟩ : ByteArray)] 28 (0, 0)) (by (with_reducible repeat (first | refine blk_drewN ?_ _ | refine blk_drew ?_ | refine blk_alloc ?_ _)); exact BK142.out)) : gb149 ≠ gb142)); have n8_ := Aside0.mk ((by rw [hg]; exact Nat.ne_of_lt (IsS88.lt (show IsS88 w _ g145 t147 t148 from by repeat (first | (with_reducible first | exact HI145.out | apply IsS88.alloc | apply IsS88.drewN | apply IsS88.drew | apply IsS88.set_0 | apply IsS88.set_1 | refine IsS88.far ?_ NB145_142.out _) | exact HI145.out))) : g145 ≠ gb149)); have n9_ := Aside0.mk ((by rw [hg]; exact Nat.ne_of_gt (IsS88.lt (show IsS88 w _ g145 t147 t148 from by repeat (first | (with_reducible first | exact HI145.out | apply IsS88.alloc | apply IsS88.drewN | apply IsS88.drew | apply IsS88.set_0 | apply IsS88.set_1 | refine IsS88.far ?_ NB145_142.out _) | exact HI145.out))) : gb149 ≠ g145)); clear BK142; clear HI145; clear HB; have BK142 := n0_; have HI145 := n1_; have HB := n2_; have BK149 := n3_; have GW149 := n4_; have GE149 := n5_; have NB142_149 := n6_; have NB149_142 := n7_; have NB145_149 := n8_; have NB149_145 := n9_; clear n0_ n1_ n2_ n3_ n4_ n5_ n6_ n7_ n8_ n9_; clear hb hbox hg; have hnb51 := NB149_142.out; have hnc51 := NB142_149.out; have hnb52 := NB149_145.out; have hnc52 := NB145_149.out; have hcz53_0 : w50.cell? ⟨gb149, 0, none⟩ = some (.string (⟨#[]⟩ : ByteArray)) := (blk_cell BK149.out 0).trans rfl; have hcz53_1 : w50.cell? ⟨gb149, 1, none⟩ = some (.string (⟨#[]⟩ : ByteArray)) := (blk_cell BK149.out 1).trans rfl; have hfz53_0 := blk_frozen BK149.out 0; have hfz53_1 := blk_frozen BK149.out 1) | ((with_reducible refine gate_callee (f := 36) rfl ?_); refine goesL_ (some 16) rfl rfl Tryd.func36 (by kernel_rfl) rfl #[.pointer (some ⟨g145, 0, none⟩)] rfl (by (try simp only [List.map_toArray, List.map_cons, List.map_nil]); first | done | rfl | (simp only [List.length_drop, List.length_take]; rfl)) ?_; (with_reducible refine (pack_Reader_Text.calls k g145 t147 t148 t150 t151 t152 w _ ?side1 ?side2 A4.out).mono ?_); (case side1 => repeat (first | (with_reducible first | exact HI145.out | apply IsS88.alloc | apply IsS88.drewN | apply IsS88.drew | apply IsS88.set_0 | apply IsS88.set_1 | refine IsS88.far ?_ NB145_142.out _ | refine IsS88.far ?_ NB145_149.out _) | exact HI145.out)); (case side2 => repeat (first | (with_reducible first | exact HB.out | apply below_alloc | apply pw_below_drewN | apply below_drew1 | refine below_set ?_ (IsS88.ge HI145.out) | refine below_set ?_ GE142.out | refine below_set ?_ GE149.out) | exact HB.out)); rintro e w54 ⟨rfl, hi, hb, hk⟩; refine ⟨_, rfl, ?_⟩; have n0_ := Aside0.mk (KeepBut.blk hk (g' := gb142) (o := .cells #[.string (⟨#[]⟩ : ByteArray), .string (⟨#[]⟩ : ByteArray)] 28 (0, 0)) (by (with_reducible repeat (first | refine blk_drewN ?_ _ | refine blk_drew ?_ | refine blk_alloc ?_ _)); refine blk_far ?_ NB142_149.out _; (with_reducible repeat (first | refine blk_drewN ?_ _ | refine blk_drew ?_ | refine blk_alloc ?_ _)); refine blk_far ?_ NB142_149.out _; (with_reducible repeat (first | refine blk_drewN ?_ _ | refine blk_drew ?_ | refine blk_alloc ?_ _)); exact BK142.out) NB142_145.out (by simp)); have n1_ := Aside0.mk (KeepBut.blk hk (g' := gb149) (o := .cells #[.string t146, .string (⟨#[]⟩ : ByteArray)] 28 (0, 0)) (by (with_reducible repeat (first | refine blk_drewN ?_ _ | refine blk_drew ?_ | refine blk_alloc ?_ _)); refine blk_put (cs := #[.string t146, .string (⟨#[]⟩ : ByteArray)]) ?_ 1 _ rfl; (with_reducible repeat (first | refine blk_drewN ?_ _ | refine blk_drew ?_ | refine blk_alloc ?_ _)); refine blk_put (cs := #[.string (⟨#[]⟩ : ByteArray), .string (⟨#[]⟩ : ByteArray)]) ?_ 0 _ rfl; (with_reducible repeat (first | refine blk_drewN ?_ _ | refine blk_drew ?_ | refine blk_alloc ?_ _)); exact BK149.out) NB149_145.out (by simp)); have n2_ := Aside0.mk (hb); have n3_ := Aside0.mk (hi); clear BK142; clear BK149; clear HB; clear HI145; have BK142 := n0_; have BK149 := n1_; have HB := n2_; have HI145 := n3_; clear n0_ n1_ n2_ n3_; (try clear hb); (try clear hb2); (try clear hk); (try clear hi); have hcz55_0 : w54.cell? ⟨gb149, 0, none⟩ = some (.string t146) := (blk_cell BK149.out 0).trans rfl; have hcz55_1 : w54.cell? ⟨gb149, 1, none⟩ = some (.string (⟨#[]⟩ : ByteArray)) := (blk_cell BK149.out 1).trans rfl; have hfz55_0 := blk_frozen BK149.out 0; have hfz55_1 := blk_frozen BK149.out 1) | ((with_reducible refine gate_callee (f := 37) rfl ?_); refine goesL_ (some 19) rfl rfl Tryd.func37 (by kernel_rfl) rfl #[.pointer (some ⟨g145, 0, none⟩)] rfl (by (try simp only [List.map_toArray, List.map_cons, List.map_nil]); first | done | rfl | (simp only [List.length_drop, List.length_take]; rfl)) ?_; (with_reducible refine (pack_Reader_Rest.calls g145 t151 t152 t153 t154 t155 w _ ?side1 ?side2 A5.out).mono ?_); (case side1 => repeat (first | (with_reducible first | exact HI145.out | apply IsS88.alloc | apply IsS88.drewN | apply IsS88.drew | apply IsS88.set_0 | apply IsS88.set_1 | refine IsS88.far ?_ NB145_142.out _ | refine IsS88.far ?_ NB145_149.out _) | exact HI145.out)); (case side2 => repeat (first | (with_reducible first | exact HB.out | apply below_alloc | apply pw_below_drewN | apply below_drew1 | refine below_set ?_ (IsS88.ge HI145.out) | refine below_set ?_ GE142.out | refine below_set ?_ GE149.out) | exact HB.out)); rintro e w56 ⟨rfl, hi, hb, hk⟩; refine ⟨_, rfl, ?_⟩; have n0_ := Aside0.mk (KeepBut.blk hk (g' := gb142) (o := .cells #[.string (⟨#[]⟩ : ByteArray), .string (⟨#[]⟩ : ByteArray)] 28 (0, 0)) (by (with_reducible repeat (first | refine blk_drewN ?_ _ | refine blk_drew ?_ | refine blk_alloc ?_ _)); refine blk_far ?_ NB142_149.out _; (with_reducible repeat (first | refine blk_drewN ?_ _ | refine blk_drew ?_ | refine blk_alloc ?_ _)); exact BK142.out) NB142_145.out (by simp)); have n1_ := Aside0.mk (KeepBut.blk hk (g' := gb149) (o := .cells #[.string t146, .string t150] 28 (0, 0)) (by (with_reducible repeat (first | refine blk_drewN ?_ _ | refine blk_drew ?_ | refine blk_alloc ?_ _)); refine blk_put (cs := #[.string t146, .string (⟨#[]⟩ : ByteArray)]) ?_ 1 _ rfl; (with_reducible repeat (first | refine blk_drewN ?_ _ | refine blk_drew ?_ | refine blk_alloc ?_ _)); exact BK149.out) NB149_145.out (by simp)); have n2_ := Aside0.mk (hb); have n3_ := Aside0.mk (hi); clear BK142; clear BK149; clear HB; clear HI145; have BK142 := n0_; have BK149 := n1_; have HB := n2_; have HI145 := n3_; clear n0_ n1_ n2_ n3_; (try clear hb); (try clear hb2); (try clear hk); (try clear hi)) | ((with_reducible refine gate_callee (f := 38) rfl ?_); refine goesL_ (some 21) rfl rfl Tryd.func38 (by kernel_rfl) rfl #[.pointer (some ⟨g145, 0, none⟩)] rfl (by (try simp only [List.map_toArray, List.map_cons, List.map_nil]); first | done | rfl | (simp only [List.length_drop, List.length_take]; rfl)) ?_; (with_reducible refine (pack_Reader_End.calls g145 t154 t155 t156 t157 t158 w _ ?side1 ?side2 A6.out).mono ?_); (case side1 => repeat (first | (with_reducible first | exact HI145.out | apply IsS88.alloc | apply IsS88.drewN | apply IsS88.drew | apply IsS88.set_0 | apply IsS88.set_1 | refine IsS88.far ?_ NB145_142.out _ | refine IsS88.far ?_ NB145_149.out _) | exact HI145.out)); (case side2 => repeat (first | (with_reducible first | exact HB.out | apply below_alloc | apply pw_below_drewN | apply below_drew1 | refine below_set ?_ (IsS88.ge HI145.out) | refine below_set ?_ GE142.out | refine below_set ?_ GE149.out) | exact HB.out)); rintro e w57 ⟨rfl, hi, hb, hk⟩; refine ⟨_, rfl, ?_⟩; have n0_ := Aside0.mk (KeepBut.blk hk (g' := gb142) (o := .cells #[.string (⟨#[]⟩ : ByteArray), .string (⟨#[]⟩ : ByteArray)] 28 (0, 0)) (by (with_reducible repeat (first | refine blk_drewN ?_ _ | refine blk_drew ?_ | refine blk_alloc ?_ _)); exact BK142.out) NB142_145.out (by simp)); have n1_ := Aside0.mk (KeepBut.blk hk (g' := gb149) (o := .cells #[.string t146, .string t150] 28 (0, 0)) (by (with_reducible repeat (first | refine blk_drewN ?_ _ | refine blk_drew ?_ | refine blk_alloc ?_ _)); exact BK149.out) NB149_145.out (by simp)); have n2_ := Aside0.mk (hb); have n3_ := Aside0.mk (hi); clear BK142; clear BK149; clear HB; clear HI145; have BK142 := n0_; have BK149 := n1_; have HB := n2_; have HI145 := n3_; clear n0_ n1_ n2_ n3_; (try clear hb); (try clear hb2); (try clear hk); (try clear hi)))
              have n0_ := Aside0.mk (blk_drew BK142.out)
              have n1_ := Aside0.mk (blk_drew BK149.out)
              have n2_ := Aside0.mk (IsS88.drew HI145.out)
              have n3_ := Aside0.mk (below_drew1 HB.out)
              clear BK142
              clear BK149
              clear HI145
              clear HB
              have BK142 := n0_
              have BK149 := n1_
              have HI145 := n2_
              have HB := n3_
              clear n0_ n1_ n2_ n3_
              refine start_ (n := 6) (S := fun w' => w'.cell? ⟨gb149, 0, none⟩ = some (.string t146) ∧ w'.cell? ⟨gb149, 1, none⟩ = some (.string t150)) (ds := []) #[false, false, false, false, false, false] (by kernel_rfl) rfl rfl ⟨(blk_cell BK149.out 0).trans rfl, (blk_cell BK149.out 1).trans rfl⟩ (fun hHeld => ?_)
              generalize w57.drew = w58 at BK142 BK149 HI145 HB hHeld ⊢
              refine pure_ (i := 0) (N := some 30) (v := ?_) (a' := ?_) #[true, false, false, false, false, false] rfl rfl (by kernel_rfl) (fun _ _ _ h => h) (Or.inl ⟨by rfl, ?_⟩) ?_ ?_
              rotate_left
              · intro w'
                go_simp
                with_reducible rfl
              rotate_left
              · simp only [Act.put, List.setIfInBounds_toArray, List.set_cons_zero, List.set_cons_succ, i64_w, i32_w]
                rfl
              refine pure_ (i := 1) (N := some 31) (v := ?_) (a' := ?_) #[true, true, false, false, false, false] rfl rfl (by kernel_rfl) (fun _ _ _ h => h) (Or.inl ⟨by rfl, ?_⟩) ?_ ?_
              rotate_left
              · intro w'
                go_simp
                with_reducible rfl
              rotate_left
              · simp only [Act.put, List.setIfInBounds_toArray, List.set_cons_zero, List.set_cons_succ, i64_w, i32_w]
                rfl
              refine pure_ (i := 2) (N := some 32) (v := ?_) (a' := ?_) #[true, true, true, false, false, false] rfl rfl (by kernel_rfl) (fun _ _ _ h => h) (Or.inl ⟨by rfl, ?_⟩) ?_ ?_
              rotate_left
              · intro w'
                go_simp
                with_reducible rfl
              rotate_left
              · simp only [Act.put, List.setIfInBounds_toArray, List.set_cons_zero, List.set_cons_succ, i64_w, i32_w]
                rfl
              refine take_ (i := 3) (N := some 33) (v := ?_) (a' := ?_) #[true, true, true, true, false, false] rfl rfl (by kernel_rfl) (fun _ _ _ h => h) (Or.inl ⟨by rfl, ?_⟩) hHeld ?_ ?_
              rotate_left
              · rintro w' ⟨s0, s1⟩
                go_simp
                with_reducible rfl
              rotate_left
              · simp only [Act.put, List.setIfInBounds_toArray, List.set_cons_zero, List.set_cons_succ, i64_w, i32_w]
                rfl
              refine one_ (i := 4) (N := some 34) #[true, true, true, true, true, false] rfl rfl (by kernel_rfl) (by decide) (fun K hK => ?_)
              refine goes_ Tryd.func29 (by kernel_rfl) rfl #[.string t150] (by rfl) rfl rfl (by (try simp only [List.map_toArray, List.map_cons, List.map_nil]); first | done | rfl | (simp only [List.length_drop, List.length_take]; rfl)) ?_
              with_reducible refine (digest_Sum.calls t150 t159 _ A24.out).mono ?_
              rintro e w59 ⟨rfl, hb⟩
              refine ⟨_, rfl, ?_⟩
              have n0_ := Aside0.mk (blk_below (g := gb142) (o := .cells #[.string (⟨#[]⟩ : ByteArray), .string (⟨#[]⟩ : ByteArray)] 28 (0, 0)) (by (with_reducible repeat (first | refine blk_drewN ?_ _ | refine blk_drew ?_ | refine blk_alloc ?_ _)); exact BK142.out) hb)
              have n1_ := Aside0.mk (IsS88.below (by repeat (first | (with_reducible first | exact HI145.out | apply IsS88.alloc | apply IsS88.drewN | apply IsS88.drew | apply IsS88.set_0 | apply IsS88.set_1 | refine IsS88.far ?_ NB145_142.out _ | refine IsS88.far ?_ NB145_149.out _) | exact HI145.out)) hb)
              have n2_ := Aside0.mk (blk_below (g := gb149) (o := .cells #[.string t146, .string t150] 28 (0, 0)) (by (with_reducible repeat (first | refine blk_drewN ?_ _ | refine blk_drew ?_ | refine blk_alloc ?_ _)); exact BK149.out) hb)
              have n3_ := Aside0.mk (below_step (by repeat (first | (with_reducible first | exact HB.out | apply below_alloc | apply pw_below_drewN | apply below_drew1 | refine below_set ?_ (IsS88.ge HI145.out) | refine below_set ?_ GE142.out | refine below_set ?_ GE149.out) | exact HB.out)) hb)
              clear BK142
              clear HI145
              clear BK149
              clear HB
              have BK142 := n0_
              have HI145 := n1_
              have BK149 := n2_
              have HB := n3_
              clear n0_ n1_ n2_ n3_
              (try clear hb)
              (try clear hb2)
              (try clear hk)
              (try clear hi)
              refine hK.out _ _ ⟨(blk_cell BK149.out 0).trans rfl, (blk_cell BK149.out 1).trans rfl⟩ (fun hHeld => ?_)
              clear hK K
              refine norm_ (a' := ?_) ?_ ?_
              rotate_left
              · show Act.put _ (some 34) _ = _
                simp only [Act.put, List.setIfInBounds_toArray, List.set_cons_zero, List.set_cons_succ, i64_w, i32_w]
                rfl
              refine pure_ (i := 5) (N := some 35) (v := ?_) (a' := ?_) #[true, true, true, true, true, true] rfl rfl (by kernel_rfl) (fun _ _ _ h => h) (Or.inl ⟨by rfl, ?_⟩) ?_ ?_
              rotate_left
              · intro w'
                go_simp
                with_reducible rfl
              rotate_left
              · simp only [Act.put, List.setIfInBounds_toArray, List.set_cons_zero, List.set_cons_succ, i64_w, i32_w]
                rfl
              refine done_ (by kernel_rfl) ?_
              have hcz60_0 : w59.cell? ⟨gb149, 0, none⟩ = some (.string t146) := (blk_cell BK149.out 0).trans rfl
              have hcz60_1 : w59.cell? ⟨gb149, 1, none⟩ = some (.string t150) := (blk_cell BK149.out 1).trans rfl
              have hfz60_0 := blk_frozen BK149.out 0
              have hfz60_1 := blk_frozen BK149.out 1
              try go_wp2_with (first | ((with_reducible refine gate_callee (f := 13) rfl ?_); refine goesL_ (some 38) rfl rfl Tryd.func13 (by kernel_rfl) rfl #[.agg #[.string t146, .string t150]] rfl (by (try simp only [List.map_toArray, List.map_cons, List.map_nil]); first | done | rfl | (simp only [List.length_drop, List.length_take]; rfl)) ?_; (with_reducible refine (needle_Check.calls t146 t150 t160 _ A26.out).mono ?_); rintro e w61 ⟨rfl, hb⟩; refine ⟨_, rfl, ?_⟩; have n0_ := Aside0.mk (blk_below (g := gb142) (o := .cells #[.string (⟨#[]⟩ : ByteArray), .string (⟨#[]⟩ : ByteArray)] 28 (0, 0)) (by (with_reducible repeat (first | refine blk_drewN ?_ _ | refine blk_drew ?_ | refine blk_alloc ?_ _)); exact BK142.out) hb); have n1_ := Aside0.mk (IsS88.below (by repeat (first | (with_reducible first | exact HI145.out | apply IsS88.alloc | apply IsS88.drewN | apply IsS88.drew | apply IsS88.set_0 | apply IsS88.set_1 | refine IsS88.far ?_ NB145_142.out _ | refine IsS88.far ?_ NB145_149.out _) | exact HI145.out)) hb); have n2_ := Aside0.mk (blk_below (g := gb149) (o := .cells #[.string t146, .string t150] 28 (0, 0)) (by (with_reducible repeat (first | refine blk_drewN ?_ _ | refine blk_drew ?_ | refine blk_alloc ?_ _)); exact BK149.out) hb); have n3_ := Aside0.mk (below_step (by repeat (first | (with_reducible first | exact HB.out | apply below_alloc | apply pw_below_drewN | apply below_drew1 | refine below_set ?_ (IsS88.ge HI145.out) | refine below_set ?_ GE142.out | refine below_set ?_ GE149.out) | exact HB.out)) hb); clear BK142; clear HI145; clear BK149; clear HB; have BK142 := n0_; have HI145 := n1_; have BK149 := n2_; have HB := n3_; clear n0_ n1_ n2_ n3_; (try clear hb); (try clear hb2); (try clear hk); (try clear hi); have hnb62 := NB142_145.out; have hnc62 := NB145_142.out; have hcz63_0 : w61.cell? ⟨gb142, 0, none⟩ = some (.string (⟨#[]⟩ : ByteArray)) := (blk_cell BK142.out 0).trans rfl; have hcz63_1 : w61.cell? ⟨gb142, 1, none⟩ = some (.string (⟨#[]⟩ : ByteArray)) := (blk_cell BK142.out 1).trans rfl; have hfz63_0 := blk_frozen BK142.out 0; have hfz63_1 := blk_frozen BK142.out 1))
              refine bodyPost_ret (results_ctt rfl _ _ gb142 28 #[.string (⟨#[]⟩ : ByteArray), .string (⟨#[]⟩ : ByteArray)] (0, 0) _ rfl (by (with_reducible repeat (first | refine blk_drewN ?_ _ | refine blk_drew ?_ | refine blk_alloc ?_ _)); refine blk_put (cs := #[.string (⟨#[]⟩ : ByteArray), .string (⟨#[]⟩ : ByteArray)]) ?_ 1 _ rfl; (with_reducible repeat (first | refine blk_drewN ?_ _ | refine blk_drew ?_ | refine blk_alloc ?_ _)); refine blk_put (cs := #[.string (⟨#[]⟩ : ByteArray), .string (⟨#[]⟩ : ByteArray)]) ?_ 0 _ rfl; (with_reducible repeat (first | refine blk_drewN ?_ _ | refine blk_drew ?_ | refine blk_alloc ?_ _)); exact BK142.out) Tryd.underlying28 rfl (by kernel_rfl)) rfl ?_
              exact ⟨by first | rfl | (simp [errW_none, errW_some] <;> rfl) | (simp [*, errW_none, errW_some] <;> rfl), by repeat (first | (with_reducible first | exact HB.out | apply below_alloc | apply pw_below_drewN | apply below_drew1 | refine below_set ?_ (IsS88.ge HI145.out) | refine below_set ?_ GE142.out | refine below_set ?_ GE149.out) | exact HB.out)⟩
          · rw [if_neg c25] at H
            have c25b0 : ((t153.extract 0 32).toList == t159.toList) = false := beq_eq_false_iff_ne.mpr c25
            have c25b1 : ((t153.extract 0 32).toList != t159.toList) = true := bne_iff_ne.mpr c25
            simp only [Option.some.injEq, Prod.mk.injEq] at H
            obtain ⟨rfl, rfl, rfl, rfl⟩ := H
            go_enter Tryd.func15, Tryd.ntmps15
            try go_wp2_with (first | ((with_reducible refine gate_dst (N := 2) rfl ?_); refine box_event ?hg (N := 2) ?hd (cs := #[.string (⟨#[]⟩ : ByteArray), .string (⟨#[]⟩ : ByteArray)]) (t := 28) ?hr ?_; (case hd => rfl); (case hg => rfl); (case hr => first | (go_simp; done) | (go_simp; rfl)); intro gb142 hg w64 hbox hb; have n0_ := Aside0.mk (below_step (by repeat (first | (with_reducible first | exact HB.out | apply below_alloc | apply pw_below_drewN | apply below_drew1) | exact HB.out)) hb); have n1_ := Aside0.mk (hbox); have n2_ := Aside0.mk ((by rw [hg]; exact (below_size (by repeat (first | (with_reducible first | exact HB.out | apply below_alloc | apply pw_below_drewN | apply below_drew1) | exact HB.out))) : w.heap.size ≤ gb142)); have n3_ := Aside0.mk ((by rw [hg]; exact (below_size (by repeat (first | (with_reducible first | exact HB.out | apply below_alloc | apply pw_below_drewN | apply below_drew1) | exact HB.out))) : w.heap.size ≤ gb142)); clear HB; have HB := n0_; have BK142 := n1_; have GW142 := n2_; have GE142 := n3_; clear n0_ n1_ n2_ n3_; clear hb hbox hg) | ((with_reducible refine gate_callee (f := 35) rfl ?_); refine goesL_ (some 11) rfl rfl Tryd.func35 (by kernel_rfl) rfl #[.string a0] rfl (by (try simp only [List.map_toArray, List.map_cons, List.map_nil]); first | done | rfl | (simp only [List.length_drop, List.length_take]; rfl)) ?_; (with_reducible refine (pack_Read.calls a0 t143 t144 w _ ?side1 A2.out).mono ?_); (case side1 => repeat (first | (with_reducible first | exact HB.out | apply below_alloc | apply pw_below_drewN | apply below_drew1 | refine below_set ?_ GE142.out) | exact HB.out)); rintro e w65 ⟨g145, rfl, hi, hb, hb2⟩; refine ⟨_, rfl, ?_⟩; have n0_ := Aside0.mk (blk_below (g := gb142) (o := .cells #[.string (⟨#[]⟩ : ByteArray), .string (⟨#[]⟩ : ByteArray)] 28 (0, 0)) (by (with_reducible repeat (first | refine blk_drewN ?_ _ | refine blk_drew ?_ | refine blk_alloc ?_ _)); exact BK142.out) hb2); have n1_ := Aside0.mk (hb); have n2_ := Aside0.mk (hi); have n3_ := Aside0.mk (IsS88.ne_blk hi (blk_below (g := gb142) (o := .cells #[.string (⟨#[]⟩ : ByteArray), .string (⟨#[]⟩ : ByteArray)] 28 (0, 0)) (by (with_reducible repeat (first | refine blk_drewN ?_ _ | refine blk_drew ?_ | refine blk_alloc ?_ _)); exact BK142.out) hb2) (by decide)); have n4_ := Aside0.mk (Ne.symm (IsS88.ne_blk hi (blk_below (g := gb142) (o := .cells #[.string (⟨#[]⟩ : ByteArray), .string (⟨#[]⟩ : ByteArray)] 28 (0, 0)) (by (with_reducible repeat (first | refine blk_drewN ?_ _ | refine blk_drew ?_ | refine blk_alloc ?_ _)); exact BK142.out) hb2) (by decide))); clear BK142; clear HB; have BK142 := n0_; have HB := n1_; have HI145 := n2_; have NB145_142 := n3_; have NB142_145 := n4_; clear n0_ n1_ n2_ n3_ n4_; (try clear hb); (try clear hb2); (try clear hk); (try clear hi)) | ((with_reducible refine gate_callee (f := 36) rfl ?_); refine goesL_ (some 13) rfl rfl Tryd.func36 (by kernel_rfl) rfl #[.pointer (some ⟨g145, 0, none⟩)] rfl (by (try simp only [List.map_toArray, List.map_cons, List.map_nil]); first | done | rfl | (simp only [List.length_drop, List.length_take]; rfl)) ?_; (with_reducible refine (pack_Reader_Text.calls k g145 t143 t144 t146 t147 t148 w _ ?side1 ?side2 A3.out).mono ?_); (case side1 => repeat (first | (with_reducible first | exact HI145.out | apply IsS88.alloc | apply IsS88.drewN | apply IsS88.drew | apply IsS88.set_0 | apply IsS88.set_1 | refine IsS88.far ?_ NB145_142.out _) | exact HI145.out)); (case side2 => repeat (first | (with_reducible first | exact HB.out | apply below_alloc | apply pw_below_drewN | apply below_drew1 | refine below_set ?_ (IsS88.ge HI145.out) | refine below_set ?_ GE142.out) | exact HB.out)); rintro e w66 ⟨rfl, hi, hb, hk⟩; refine ⟨_, rfl, ?_⟩; have n0_ := Aside0.mk (KeepBut.blk hk (g' := gb142) (o := .cells #[.string (⟨#[]⟩ : ByteArray), .string (⟨#[]⟩ : ByteArray)] 28 (0, 0)) (by (with_reducible repeat (first | refine blk_drewN ?_ _ | refine blk_drew ?_ | refine blk_alloc ?_ _)); exact BK142.out) NB142_145.out (by simp)); have n1_ := Aside0.mk (hb); have n2_ := Aside0.mk (hi); clear BK142; clear HB; clear HI145; have BK142 := n0_; have HB := n1_; have HI145 := n2_; clear n0_ n1_ n2_; (try clear hb); (try clear hb2); (try clear hk); (try clear hi)) | ((with_reducible refine gate_dst (N := 6) rfl ?_); refine box_event ?hg (N := 6) ?hd (cs := #[.string (⟨#[]⟩ : ByteArray), .string (⟨#[]⟩ : ByteArray)]) (t := 28) ?hr ?_; (case hd => rfl); (case hg => rfl); (case hr => first | (go_simp; done) | (go_simp; rfl)); intro gb149 hg w67 hbox hb; have n0_ := Aside0.mk (blk_below (g := gb142) (o := .cells #[.string (⟨#[]⟩ : ByteArray), .string (⟨#[]⟩ : ByteArray)] 28 (0, 0)) (by (with_reducible repeat (first | refine blk_drewN ?_ _ | refine blk_drew ?_ | refine blk_alloc ?_ _)); exact BK142.out) hb); have n1_ := Aside0.mk (IsS88.below (by repeat (first | (with_reducible first | exact HI145.out | apply IsS88.alloc | apply IsS88.drewN | apply IsS88.drew | apply IsS88.set_0 | apply IsS88.set_1 | refine IsS88.far ?_ NB145_142.out _) | exact HI145.out)) hb); have n2_ := Aside0.mk (below_step (by repeat (first | (with_reducible first | exact HB.out | apply below_alloc | apply pw_below_drewN | apply below_drew1 | refine below_set ?_ (IsS88.ge HI145.out) | refine below_set ?_ GE142.out) | exact HB.out)) hb); have n3_ := Aside0.mk (hbox); have n4_ := Aside0.mk ((by rw [hg]; exact (below_size (by repeat (first | (with_reducible first | exact HB.out | apply below_alloc | apply pw_below_drewN | apply below_drew1 | refine below_set ?_ (IsS88.ge HI145.out) | refine below_set ?_ GE142.out) | exact HB.out))) : w.heap.size ≤ gb149)); have n5_ := Aside0.mk ((by rw [hg]; exact (below_size (by repeat (first | (with_reducible first | exact HB.out | apply below_alloc | apply pw_below_drewN | apply below_drew1 | refine below_set ?_ (IsS88.ge HI145.out) | refine below_set ?_ GE142.out) | exact HB.out))) : w.heap.size ≤ gb149)); have n6_ := Aside0.mk ((by rw [hg]; exact Nat.ne_of_lt (blk_lt (g := gb142) (o := .cells #[.string (⟨#[]⟩ : ByteArray), .string (⟨#[]⟩ : ByteArray)] 28 (0, 0)) (by (with_reducible repeat (first | refine blk_drewN ?_ _ | refine blk_drew ?_ | refine blk_alloc ?_ _)); exact BK142.out)) : gb142 ≠ gb149)); have n7_ := Aside0.mk ((by rw [hg]; exact Nat.ne_of_gt (blk_lt (g := gb142) (o := .cells #[.string (⟨#[]⟩ : ByteArray), .string (⟨#[]⟩ : ByteArray)] 28 (0, 0)) (by (with_reducible repeat (first | refine blk_drewN ?_ _ | refine blk_drew ?_ | refine blk_alloc ?_ _)); exact BK142.out)) : gb149 ≠ gb142)); have n8_ := Aside0.mk ((by rw [hg]; exact Nat.ne_of_lt (IsS88.lt (show IsS88 w _ g145 t147 t148 from by repeat (first | (with_reducible first | exact HI145.out | apply IsS88.alloc | apply IsS88.drewN | apply IsS88.drew | apply IsS88.set_0 | apply IsS88.set_1 | refine IsS88.far ?_ NB145_142.out _) | exact HI145.out))) : g145 ≠ gb149)); have n9_ := Aside0.mk ((by rw [hg]; exact Nat.ne_of_gt (IsS88.lt (show IsS88 w _ g145 t147 t148 from by repeat (first | (with_reducible first | exact HI145.out | apply IsS88.alloc | apply IsS88.drewN | apply IsS88.drew | apply IsS88.set_0 | apply IsS88.set_1 | refine IsS88.far ?_ NB145_142.out _) | exact HI145.out))) : gb149 ≠ g145)); clear BK142; clear HI145; clear HB; have BK142 := n0_; have HI145 := n1_; have HB := n2_; have BK149 := n3_; have GW149 := n4_; have GE149 := n5_; have NB142_149 := n6_; have NB149_142 := n7_; have NB145_149 := n8_; have NB149_145 := n9_; clear n0_ n1_ n2_ n3_ n4_ n5_ n6_ n7_ n8_ n9_; clear hb hbox hg; have hnb68 := NB149_142.out; have hnc68 := NB142_149.out; have hnb69 := NB149_145.out; have hnc69 := NB145_149.out; have hcz70_0 : w67.cell? ⟨gb149, 0, none⟩ = some (.string (⟨#[]⟩ : ByteArray)) := (blk_cell BK149.out 0).trans rfl; have hcz70_1 : w67.cell? ⟨gb149, 1, none⟩ = some (.string (⟨#[]⟩ : ByteArray)) := (blk_cell BK149.out 1).trans rfl; have hfz70_0 := blk_frozen BK149.out 0; have hfz70_1 := blk_frozen BK149.out 1) | ((with_reducible refine gate_callee (f := 36) rfl ?_); refine goesL_ (some 16) rfl rfl Tryd.func36 (by kernel_rfl) rfl #[.pointer (some ⟨g145, 0, none⟩)] rfl (by (try simp only [List.map_toArray, List.map_cons, List.map_nil]); first | done | rfl | (simp only [List.length_drop, List.length_take]; rfl)) ?_; (with_reducible refine (pack_Reader_Text.calls k g145 t147 t148 t150 t151 t152 w _ ?side1 ?side2 A4.out).mono ?_); (case side1 => repeat (first | (with_reducible first | exact HI145.out | apply IsS88.alloc | apply IsS88.drewN | apply IsS88.drew | apply IsS88.set_0 | apply IsS88.set_1 | refine IsS88.far ?_ NB145_142.out _ | refine IsS88.far ?_ NB145_149.out _) | exact HI145.out)); (case side2 => repeat (first | (with_reducible first | exact HB.out | apply below_alloc | apply pw_below_drewN | apply below_drew1 | refine below_set ?_ (IsS88.ge HI145.out) | refine below_set ?_ GE142.out | refine below_set ?_ GE149.out) | exact HB.out)); rintro e w71 ⟨rfl, hi, hb, hk⟩; refine ⟨_, rfl, ?_⟩; have n0_ := Aside0.mk (KeepBut.blk hk (g' := gb142) (o := .cells #[.string (⟨#[]⟩ : ByteArray), .string (⟨#[]⟩ : ByteArray)] 28 (0, 0)) (by (with_reducible repeat (first | refine blk_drewN ?_ _ | refine blk_drew ?_ | refine blk_alloc ?_ _)); refine blk_far ?_ NB142_149.out _; (with_reducible repeat (first | refine blk_drewN ?_ _ | refine blk_drew ?_ | refine blk_alloc ?_ _)); refine blk_far ?_ NB142_149.out _; (with_reducible repeat (first | refine blk_drewN ?_ _ | refine blk_drew ?_ | refine blk_alloc ?_ _)); exact BK142.out) NB142_145.out (by simp)); have n1_ := Aside0.mk (KeepBut.blk hk (g' := gb149) (o := .cells #[.string t146, .string (⟨#[]⟩ : ByteArray)] 28 (0, 0)) (by (with_reducible repeat (first | refine blk_drewN ?_ _ | refine blk_drew ?_ | refine blk_alloc ?_ _)); refine blk_put (cs := #[.string t146, .string (⟨#[]⟩ : ByteArray)]) ?_ 1 _ rfl; (with_reducible repeat (first | refine blk_drewN ?_ _ | refine blk_drew ?_ | refine blk_alloc ?_ _)); refine blk_put (cs := #[.string (⟨#[]⟩ : ByteArray), .string (⟨#[]⟩ : ByteArray)]) ?_ 0 _ rfl; (with_reducible repeat (first | refine blk_drewN ?_ _ | refine blk_drew ?_ | refine blk_alloc ?_ _)); exact BK149.out) NB149_145.out (by simp)); have n2_ := Aside0.mk (hb); have n3_ := Aside0.mk (hi); clear BK142; clear BK149; clear HB; clear HI145; have BK142 := n0_; have BK149 := n1_; have HB := n2_; have HI145 := n3_; clear n0_ n1_ n2_ n3_; (try clear hb); (try clear hb2); (try clear hk); (try clear hi); have hcz72_0 : w71.cell? ⟨gb149, 0, none⟩ = some (.string t146) := (blk_cell BK149.out 0).trans rfl; have hcz72_1 : w71.cell? ⟨gb149, 1, none⟩ = some (.string (⟨#[]⟩ : ByteArray)) := (blk_cell BK149.out 1).trans rfl; have hfz72_0 := blk_frozen BK149.out 0; have hfz72_1 := blk_frozen BK149.out 1) | ((with_reducible refine gate_callee (f := 37) rfl ?_); refine goesL_ (some 19) rfl rfl Tryd.func37 (by kernel_rfl) rfl #[.pointer (some ⟨g145, 0, none⟩)] rfl (by (try simp only [List.map_toArray, List.map_cons, List.map_nil]); first | done | rfl | (simp only [List.length_drop, List.length_take]; rfl)) ?_; (with_reducible refine (pack_Reader_Rest.calls g145 t151 t152 t153 t154 t155 w _ ?side1 ?side2 A5.out).mono ?_); (case side1 => repeat (first | (with_reducible first | exact HI145.out | apply IsS88.alloc | apply IsS88.drewN | apply IsS88.drew | apply IsS88.set_0 | apply IsS88.set_1 | refine IsS88.far ?_ NB145_142.out _ | refine IsS88.far ?_ NB145_149.out _) | exact HI145.out)); (case side2 => repeat (first | (with_reducible first | exact HB.out | apply below_alloc | apply pw_below_drewN | apply below_drew1 | refine below_set ?_ (IsS88.ge HI145.out) | refine below_set ?_ GE142.out | refine below_set ?_ GE149.out) | exact HB.out)); rintro e w73 ⟨rfl, hi, hb, hk⟩; refine ⟨_, rfl, ?_⟩; have n0_ := Aside0.mk (KeepBut.blk hk (g' := gb142) (o := .cells #[.string (⟨#[]⟩ : ByteArray), .string (⟨#[]⟩ : ByteArray)] 28 (0, 0)) (by (with_reducible repeat (first | refine blk_drewN ?_ _ | refine blk_drew ?_ | refine blk_alloc ?_ _)); refine blk_far ?_ NB142_149.out _; (with_reducible repeat (first | refine blk_drewN ?_ _ | refine blk_drew ?_ | refine blk_alloc ?_ _)); exact BK142.out) NB142_145.out (by simp)); have n1_ := Aside0.mk (KeepBut.blk hk (g' := gb149) (o := .cells #[.string t146, .string t150] 28 (0, 0)) (by (with_reducible repeat (first | refine blk_drewN ?_ _ | refine blk_drew ?_ | refine blk_alloc ?_ _)); refine blk_put (cs := #[.string t146, .string (⟨#[]⟩ : ByteArray)]) ?_ 1 _ rfl; (with_reducible repeat (first | refine blk_drewN ?_ _ | refine blk_drew ?_ | refine blk_alloc ?_ _)); exact BK149.out) NB149_145.out (by simp)); have n2_ := Aside0.mk (hb); have n3_ := Aside0.mk (hi); clear BK142; clear BK149; clear HB; clear HI145; have BK142 := n0_; have BK149 := n1_; have HB := n2_; have HI145 := n3_; clear n0_ n1_ n2_ n3_; (try clear hb); (try clear hb2); (try clear hk); (try clear hi)) | ((with_reducible refine gate_callee (f := 38) rfl ?_); refine goesL_ (some 21) rfl rfl Tryd.func38 (by kernel_rfl) rfl #[.pointer (some ⟨g145, 0, none⟩)] rfl (by (try simp only [List.map_toArray, List.map_cons, List.map_nil]); first | done | rfl | (simp only [List.length_drop, List.length_take]; rfl)) ?_; (with_reducible refine (pack_Reader_End.calls g145 t154 t155 t156 t157 t158 w _ ?side1 ?side2 A6.out).mono ?_); (case side1 => repeat (first | (with_reducible first | exact HI145.out | apply IsS88.alloc | apply IsS88.drewN | apply IsS88.drew | apply IsS88.set_0 | apply IsS88.set_1 | refine IsS88.far ?_ NB145_142.out _ | refine IsS88.far ?_ NB145_149.out _) | exact HI145.out)); (case side2 => repeat (first | (with_reducible first | exact HB.out | apply below_alloc | apply pw_below_drewN | apply below_drew1 | refine below_set ?_ (IsS88.ge HI145.out) | refine below_set ?_ GE142.out | refine below_set ?_ GE149.out) | exact HB.out)); rintro e w74 ⟨rfl, hi, hb, hk⟩; refine ⟨_, rfl, ?_⟩; have n0_ := Aside0.mk (KeepBut.blk hk (g' := gb142) (o := .cells #[.string (⟨#[]⟩ : ByteArray), .string (⟨#[]⟩ : ByteArray)] 28 (0, 0)) (by (with_reducible repeat (first | refine blk_drewN ?_ _ | refine blk_drew ?_ | refine blk_alloc ?_ _)); exact BK142.out) NB142_145.out (by simp)); have n1_ := Aside0.mk (KeepBut.blk hk (g' := gb149) (o := .cells #[.string t146, .string t150] 28 (0, 0)) (by (with_reducible repeat (first | refine blk_drewN ?_ _ | refine blk_drew ?_ | refine blk_alloc ?_ _)); exact BK149.out) NB149_145.out (by simp)); have n2_ := Aside0.mk (hb); have n3_ := Aside0.mk (hi); clear BK142; clear BK149; clear HB; clear HI145; have BK142 := n0_; have BK149 := n1_; have HB := n2_; have HI145 := n3_; clear n0_ n1_ n2_ n3_; (try clear hb); (try clear hb2); (try clear hk); (try clear hi)))
            have n0_ := Aside0.mk (blk_drew BK142.out)
            have n1_ := Aside0.mk (blk_drew BK149.out)
            have n2_ := Aside0.mk (IsS88.drew HI145.out)
            have n3_ := Aside0.mk (below_drew1 HB.out)
            clear BK142
            clear BK149
            clear HI145
            clear HB
            have BK142 := n0_
            have BK149 := n1_
            have HI145 := n2_
            have HB := n3_
            clear n0_ n1_ n2_ n3_
            refine start_ (n := 6) (S := fun w' => w'.cell? ⟨gb149, 0, none⟩ = some (.string t146) ∧ w'.cell? ⟨gb149, 1, none⟩ = some (.string t150)) (ds := []) #[false, false, false, false, false, false] (by kernel_rfl) rfl rfl ⟨(blk_cell BK149.out 0).trans rfl, (blk_cell BK149.out 1).trans rfl⟩ (fun hHeld => ?_)
            generalize w74.drew = w75 at BK142 BK149 HI145 HB hHeld ⊢
            refine pure_ (i := 0) (N := some 30) (v := ?_) (a' := ?_) #[true, false, false, false, false, false] rfl rfl (by kernel_rfl) (fun _ _ _ h => h) (Or.inl ⟨by rfl, ?_⟩) ?_ ?_
            rotate_left
            · intro w'
              go_simp
              with_reducible rfl
            rotate_left
            · simp only [Act.put, List.setIfInBounds_toArray, List.set_cons_zero, List.set_cons_succ, i64_w, i32_w]
              rfl
            refine pure_ (i := 1) (N := some 31) (v := ?_) (a' := ?_) #[true, true, false, false, false, false] rfl rfl (by kernel_rfl) (fun _ _ _ h => h) (Or.inl ⟨by rfl, ?_⟩) ?_ ?_
            rotate_left
            · intro w'
              go_simp
              with_reducible rfl
            rotate_left
            · simp only [Act.put, List.setIfInBounds_toArray, List.set_cons_zero, List.set_cons_succ, i64_w, i32_w]
              rfl
            refine pure_ (i := 2) (N := some 32) (v := ?_) (a' := ?_) #[true, true, true, false, false, false] rfl rfl (by kernel_rfl) (fun _ _ _ h => h) (Or.inl ⟨by rfl, ?_⟩) ?_ ?_
            rotate_left
            · intro w'
              go_simp
              with_reducible rfl
            rotate_left
            · simp only [Act.put, List.setIfInBounds_toArray, List.set_cons_zero, List.set_cons_succ, i64_w, i32_w]
              rfl
            refine take_ (i := 3) (N := some 33) (v := ?_) (a' := ?_) #[true, true, true, true, false, false] rfl rfl (by kernel_rfl) (fun _ _ _ h => h) (Or.inl ⟨by rfl, ?_⟩) hHeld ?_ ?_
            rotate_left
            · rintro w' ⟨s0, s1⟩
              go_simp
              with_reducible rfl
            rotate_left
            · simp only [Act.put, List.setIfInBounds_toArray, List.set_cons_zero, List.set_cons_succ, i64_w, i32_w]
              rfl
            refine one_ (i := 4) (N := some 34) #[true, true, true, true, true, false] rfl rfl (by kernel_rfl) (by decide) (fun K hK => ?_)
            refine goes_ Tryd.func29 (by kernel_rfl) rfl #[.string t150] (by rfl) rfl rfl (by (try simp only [List.map_toArray, List.map_cons, List.map_nil]); first | done | rfl | (simp only [List.length_drop, List.length_take]; rfl)) ?_
            with_reducible refine (digest_Sum.calls t150 t159 _ A24.out).mono ?_
            rintro e w76 ⟨rfl, hb⟩
            refine ⟨_, rfl, ?_⟩
            have n0_ := Aside0.mk (blk_below (g := gb142) (o := .cells #[.string (⟨#[]⟩ : ByteArray), .string (⟨#[]⟩ : ByteArray)] 28 (0, 0)) (by (with_reducible repeat (first | refine blk_drewN ?_ _ | refine blk_drew ?_ | refine blk_alloc ?_ _)); exact BK142.out) hb)
            have n1_ := Aside0.mk (IsS88.below (by repeat (first | (with_reducible first | exact HI145.out | apply IsS88.alloc | apply IsS88.drewN | apply IsS88.drew | apply IsS88.set_0 | apply IsS88.set_1 | refine IsS88.far ?_ NB145_142.out _ | refine IsS88.far ?_ NB145_149.out _) | exact HI145.out)) hb)
            have n2_ := Aside0.mk (blk_below (g := gb149) (o := .cells #[.string t146, .string t150] 28 (0, 0)) (by (with_reducible repeat (first | refine blk_drewN ?_ _ | refine blk_drew ?_ | refine blk_alloc ?_ _)); exact BK149.out) hb)
            have n3_ := Aside0.mk (below_step (by repeat (first | (with_reducible first | exact HB.out | apply below_alloc | apply pw_below_drewN | apply below_drew1 | refine below_set ?_ (IsS88.ge HI145.out) | refine below_set ?_ GE142.out | refine below_set ?_ GE149.out) | exact HB.out)) hb)
            clear BK142
            clear HI145
            clear BK149
            clear HB
            have BK142 := n0_
            have HI145 := n1_
            have BK149 := n2_
            have HB := n3_
            clear n0_ n1_ n2_ n3_
            (try clear hb)
            (try clear hb2)
            (try clear hk)
            (try clear hi)
            refine hK.out _ _ ⟨(blk_cell BK149.out 0).trans rfl, (blk_cell BK149.out 1).trans rfl⟩ (fun hHeld => ?_)
            clear hK K
            refine norm_ (a' := ?_) ?_ ?_
            rotate_left
            · show Act.put _ (some 34) _ = _
              simp only [Act.put, List.setIfInBounds_toArray, List.set_cons_zero, List.set_cons_succ, i64_w, i32_w]
              rfl
            refine pure_ (i := 5) (N := some 35) (v := ?_) (a' := ?_) #[true, true, true, true, true, true] rfl rfl (by kernel_rfl) (fun _ _ _ h => h) (Or.inl ⟨by rfl, ?_⟩) ?_ ?_
            rotate_left
            · intro w'
              go_simp
              with_reducible rfl
            rotate_left
            · simp only [Act.put, List.setIfInBounds_toArray, List.set_cons_zero, List.set_cons_succ, i64_w, i32_w]
              rfl
            refine done_ (by kernel_rfl) ?_
            have hnb77 := NB142_145.out
            have hnc77 := NB145_142.out
            have hcz78_0 : w76.cell? ⟨gb142, 0, none⟩ = some (.string (⟨#[]⟩ : ByteArray)) := (blk_cell BK142.out 0).trans rfl
            have hcz78_1 : w76.cell? ⟨gb142, 1, none⟩ = some (.string (⟨#[]⟩ : ByteArray)) := (blk_cell BK142.out 1).trans rfl
            have hfz78_0 := blk_frozen BK142.out 0
            have hfz78_1 := blk_frozen BK142.out 1
            try go_wp2
            refine bodyPost_ret (results_ctt rfl _ _ gb142 28 #[.string (⟨#[]⟩ : ByteArray), .string (⟨#[]⟩ : ByteArray)] (0, 0) _ rfl (by (with_reducible repeat (first | refine blk_drewN ?_ _ | refine blk_drew ?_ | refine blk_alloc ?_ _)); refine blk_put (cs := #[.string (⟨#[]⟩ : ByteArray), .string (⟨#[]⟩ : ByteArray)]) ?_ 1 _ rfl; (with_reducible repeat (first | refine blk_drewN ?_ _ | refine blk_drew ?_ | refine blk_alloc ?_ _)); refine blk_put (cs := #[.string (⟨#[]⟩ : ByteArray), .string (⟨#[]⟩ : ByteArray)]) ?_ 0 _ rfl; (with_reducible repeat (first | refine blk_drewN ?_ _ | refine blk_drew ?_ | refine blk_alloc ?_ _)); exact BK142.out) Tryd.underlying28 rfl (by kernel_rfl)) rfl ?_
            exact ⟨by first | rfl | (simp [errW_none, errW_some] <;> rfl) | (simp [*, errW_none, errW_some] <;> rfl), by repeat (first | (with_reducible first | exact HB.out | apply below_alloc | apply pw_below_drewN | apply below_drew1 | refine below_set ?_ (IsS88.ge HI145.out) | refine below_set ?_ GE142.out | refine below_set ?_ GE149.out) | exact HB.out)⟩
        · rw [if_neg c23] at H
          exact absurd H (by simp)
      · rw [if_neg c22] at H
        exact absurd H (by simp)
  · rw [if_neg c7] at H
    have c7b0 : (t156 == 0) = false := beq_eq_false_iff_ne.mpr c7
    have c7b1 : (t156 != 0) = true := bne_iff_ne.mpr c7
    simp only [Option.some.injEq, Prod.mk.injEq] at H
    obtain ⟨rfl, rfl, rfl, rfl⟩ := H
    go_enter Tryd.func15, Tryd.ntmps15
    go_wp2_with (first | ((with_reducible refine gate_dst (N := 2) rfl ?_); refine box_event ?hg (N := 2) ?hd (cs := #[.string (⟨#[]⟩ : ByteArray), .string (⟨#[]⟩ : ByteArray)]) (t := 28) ?hr ?_; (case hd => rfl); (case hg => rfl); (case hr => first | (go_simp; done) | (go_simp; rfl)); intro gb142 hg w79 hbox hb; have n0_ := Aside0.mk (below_step (by repeat (first | (with_reducible first | exact HB.out | apply below_alloc | apply pw_below_drewN | apply below_drew1) | exact HB.out)) hb); have n1_ := Aside0.mk (hbox); have n2_ := Aside0.mk ((by rw [hg]; exact (below_size (by repeat (first | (with_reducible first | exact HB.out | apply below_alloc | apply pw_below_drewN | apply below_drew1) | exact HB.out))) : w.heap.size ≤ gb142)); have n3_ := Aside0.mk ((by rw [hg]; exact (below_size (by repeat (first | (with_reducible first | exact HB.out | apply below_alloc | apply pw_below_drewN | apply below_drew1) | exact HB.out))) : w.heap.size ≤ gb142)); clear HB; have HB := n0_; have BK142 := n1_; have GW142 := n2_; have GE142 := n3_; clear n0_ n1_ n2_ n3_; clear hb hbox hg) | ((with_reducible refine gate_callee (f := 35) rfl ?_); refine goesL_ (some 11) rfl rfl Tryd.func35 (by kernel_rfl) rfl #[.string a0] rfl (by (try simp only [List.map_toArray, List.map_cons, List.map_nil]); first | done | rfl | (simp only [List.length_drop, List.length_take]; rfl)) ?_; (with_reducible refine (pack_Read.calls a0 t143 t144 w _ ?side1 A2.out).mono ?_); (case side1 => repeat (first | (with_reducible first | exact HB.out | apply below_alloc | apply pw_below_drewN | apply below_drew1 | refine below_set ?_ GE142.out) | exact HB.out)); rintro e w80 ⟨g145, rfl, hi, hb, hb2⟩; refine ⟨_, rfl, ?_⟩; have n0_ := Aside0.mk (blk_below (g := gb142) (o := .cells #[.string (⟨#[]⟩ : ByteArray), .string (⟨#[]⟩ : ByteArray)] 28 (0, 0)) (by (with_reducible repeat (first | refine blk_drewN ?_ _ | refine blk_drew ?_ | refine blk_alloc ?_ _)); exact BK142.out) hb2); have n1_ := Aside0.mk (hb); have n2_ := Aside0.mk (hi); have n3_ := Aside0.mk (IsS88.ne_blk hi (blk_below (g := gb142) (o := .cells #[.string (⟨#[]⟩ : ByteArray), .string (⟨#[]⟩ : ByteArray)] 28 (0, 0)) (by (with_reducible repeat (first | refine blk_drewN ?_ _ | refine blk_drew ?_ | refine blk_alloc ?_ _)); exact BK142.out) hb2) (by decide)); have n4_ := Aside0.mk (Ne.symm (IsS88.ne_blk hi (blk_below (g := gb142) (o := .cells #[.string (⟨#[]⟩ : ByteArray), .string (⟨#[]⟩ : ByteArray)] 28 (0, 0)) (by (with_reducible repeat (first | refine blk_drewN ?_ _ | refine blk_drew ?_ | refine blk_alloc ?_ _)); exact BK142.out) hb2) (by decide))); clear BK142; clear HB; have BK142 := n0_; have HB := n1_; have HI145 := n2_; have NB145_142 := n3_; have NB142_145 := n4_; clear n0_ n1_ n2_ n3_ n4_; (try clear hb); (try clear hb2); (try clear hk); (try clear hi)) | ((with_reducible refine gate_callee (f := 36) rfl ?_); refine goesL_ (some 13) rfl rfl Tryd.func36 (by kernel_rfl) rfl #[.pointer (some ⟨g145, 0, none⟩)] rfl (by (try simp only [List.map_toArray, List.map_cons, List.map_nil]); first | done | rfl | (simp only [List.length_drop, List.length_take]; rfl)) ?_; (with_reducible refine (pack_Reader_Text.calls k g145 t143 t144 t146 t147 t148 w _ ?side1 ?side2 A3.out).mono ?_); (case side1 => repeat (first | (with_reducible first | exact HI145.out | apply IsS88.alloc | apply IsS88.drewN | apply IsS88.drew | apply IsS88.set_0 | apply IsS88.set_1 | refine IsS88.far ?_ NB145_142.out _) | exact HI145.out)); (case side2 => repeat (first | (with_reducible first | exact HB.out | apply below_alloc | apply pw_below_drewN | apply below_drew1 | refine below_set ?_ (IsS88.ge HI145.out) | refine below_set ?_ GE142.out) | exact HB.out)); rintro e w81 ⟨rfl, hi, hb, hk⟩; refine ⟨_, rfl, ?_⟩; have n0_ := Aside0.mk (KeepBut.blk hk (g' := gb142) (o := .cells #[.string (⟨#[]⟩ : ByteArray), .string (⟨#[]⟩ : ByteArray)] 28 (0, 0)) (by (with_reducible repeat (first | refine blk_drewN ?_ _ | refine blk_drew ?_ | refine blk_alloc ?_ _)); exact BK142.out) NB142_145.out (by simp)); have n1_ := Aside0.mk (hb); have n2_ := Aside0.mk (hi); clear BK142; clear HB; clear HI145; have BK142 := n0_; have HB := n1_; have HI145 := n2_; clear n0_ n1_ n2_; (try clear hb); (try clear hb2); (try clear hk); (try clear hi)) | ((with_reducible refine gate_dst (N := 6) rfl ?_); refine box_event ?hg (N := 6) ?hd (cs := #[.string (⟨#[]⟩ : ByteArray), .string (⟨#[]⟩ : ByteArray)]) (t := 28) ?hr ?_; (case hd => rfl); (case hg => rfl); (case hr => first | (go_simp; done) | (go_simp; rfl)); intro gb149 hg w82 hbox hb; have n0_ := Aside0.mk (blk_below (g := gb142) (o := .cells #[.string (⟨#[]⟩ : ByteArray), .string (⟨#[]⟩ : ByteArray)] 28 (0, 0)) (by (with_reducible repeat (first | refine blk_drewN ?_ _ | refine blk_drew ?_ | refine blk_alloc ?_ _)); exact BK142.out) hb); have n1_ := Aside0.mk (IsS88.below (by repeat (first | (with_reducible first | exact HI145.out | apply IsS88.alloc | apply IsS88.drewN | apply IsS88.drew | apply IsS88.set_0 | apply IsS88.set_1 | refine IsS88.far ?_ NB145_142.out _) | exact HI145.out)) hb); have n2_ := Aside0.mk (below_step (by repeat (first | (with_reducible first | exact HB.out | apply below_alloc | apply pw_below_drewN | apply below_drew1 | refine below_set ?_ (IsS88.ge HI145.out) | refine below_set ?_ GE142.out) | exact HB.out)) hb); have n3_ := Aside0.mk (hbox); have n4_ := Aside0.mk ((by rw [hg]; exact (below_size (by repeat (first | (with_reducible first | exact HB.out | apply below_alloc | apply pw_below_drewN | apply below_drew1 | refine below_set ?_ (IsS88.ge HI145.out) | refine below_set ?_ GE142.out) | exact HB.out))) : w.heap.size ≤ gb149)); have n5_ := Aside0.mk ((by rw [hg]; exact (below_size (by repeat (first | (with_reducible first | exact HB.out | apply below_alloc | apply pw_below_drewN | apply below_drew1 | refine below_set ?_ (IsS88.ge HI145.out) | refine below_set ?_ GE142.out) | exact HB.out))) : w.heap.size ≤ gb149)); have n6_ := Aside0.mk ((by rw [hg]; exact Nat.ne_of_lt (blk_lt (g := gb142) (o := .cells #[.string (⟨#[]⟩ : ByteArray), .string (⟨#[]⟩ : ByteArray)] 28 (0, 0)) (by (with_reducible repeat (first | refine blk_drewN ?_ _ | refine blk_drew ?_ | refine blk_alloc ?_ _)); exact BK142.out)) : gb142 ≠ gb149)); have n7_ := Aside0.mk ((by rw [hg]; exact Nat.ne_of_gt (blk_lt (g := gb142) (o := .cells #[.string (⟨#[]⟩ : ByteArray), .string (⟨#[]⟩ : ByteArray)] 28 (0, 0)) (by (with_reducible repeat (first | refine blk_drewN ?_ _ | refine blk_drew ?_ | refine blk_alloc ?_ _)); exact BK142.out)) : gb149 ≠ gb142)); have n8_ := Aside0.mk ((by rw [hg]; exact Nat.ne_of_lt (IsS88.lt (show IsS88 w _ g145 t147 t148 from by repeat (first | (with_reducible first | exact HI145.out | apply IsS88.alloc | apply IsS88.drewN | apply IsS88.drew | apply IsS88.set_0 | apply IsS88.set_1 | refine IsS88.far ?_ NB145_142.out _) | exact HI145.out))) : g145 ≠ gb149)); have n9_ := Aside0.mk ((by rw [hg]; exact Nat.ne_of_gt (IsS88.lt (show IsS88 w _ g145 t147 t148 from by repeat (first | (with_reducible first | exact HI145.out | apply IsS88.alloc | apply IsS88.drewN | apply IsS88.drew | apply IsS88.set_0 | apply IsS88.set_1 | refine IsS88.far ?_ NB145_142.out _) | exact HI145.out))) : gb149 ≠ g145)); clear BK142; clear HI145; clear HB; have BK142 := n0_; have HI145 := n1_; have HB := n2_; have BK149 := n3_; have GW149 := n4_; have GE149 := n5_; have NB142_149 := n6_; have NB149_142 := n7_; have NB145_149 := n8_; have NB149_145 := n9_; clear n0_ n1_ n2_ n3_ n4_ n5_ n6_ n7_ n8_ n9_; clear hb hbox hg; have hnb83 := NB149_142.out; have hnc83 := NB142_149.out; have hnb84 := NB149_145.out; have hnc84 := NB145_149.out; have hcz85_0 : w82.cell? ⟨gb149, 0, none⟩ = some (.string (⟨#[]⟩ : ByteArray)) := (blk_cell BK149.out 0).trans rfl; have hcz85_1 : w82.cell? ⟨gb149, 1, none⟩ = some (.string (⟨#[]⟩ : ByteArray)) := (blk_cell BK149.out 1).trans rfl; have hfz85_0 := blk_frozen BK149.out 0; have hfz85_1 := blk_frozen BK149.out 1) | ((with_reducible refine gate_callee (f := 36) rfl ?_); refine goesL_ (some 16) rfl rfl Tryd.func36 (by kernel_rfl) rfl #[.pointer (some ⟨g145, 0, none⟩)] rfl (by (try simp only [List.map_toArray, List.map_cons, List.map_nil]); first | done | rfl | (simp only [List.length_drop, List.length_take]; rfl)) ?_; (with_reducible refine (pack_Reader_Text.calls k g145 t147 t148 t150 t151 t152 w _ ?side1 ?side2 A4.out).mono ?_); (case side1 => repeat (first | (with_reducible first | exact HI145.out | apply IsS88.alloc | apply IsS88.drewN | apply IsS88.drew | apply IsS88.set_0 | apply IsS88.set_1 | refine IsS88.far ?_ NB145_142.out _ | refine IsS88.far ?_ NB145_149.out _) | exact HI145.out)); (case side2 => repeat (first | (with_reducible first | exact HB.out | apply below_alloc | apply pw_below_drewN | apply below_drew1 | refine below_set ?_ (IsS88.ge HI145.out) | refine below_set ?_ GE142.out | refine below_set ?_ GE149.out) | exact HB.out)); rintro e w86 ⟨rfl, hi, hb, hk⟩; refine ⟨_, rfl, ?_⟩; have n0_ := Aside0.mk (KeepBut.blk hk (g' := gb142) (o := .cells #[.string (⟨#[]⟩ : ByteArray), .string (⟨#[]⟩ : ByteArray)] 28 (0, 0)) (by (with_reducible repeat (first | refine blk_drewN ?_ _ | refine blk_drew ?_ | refine blk_alloc ?_ _)); refine blk_far ?_ NB142_149.out _; (with_reducible repeat (first | refine blk_drewN ?_ _ | refine blk_drew ?_ | refine blk_alloc ?_ _)); refine blk_far ?_ NB142_149.out _; (with_reducible repeat (first | refine blk_drewN ?_ _ | refine blk_drew ?_ | refine blk_alloc ?_ _)); exact BK142.out) NB142_145.out (by simp)); have n1_ := Aside0.mk (KeepBut.blk hk (g' := gb149) (o := .cells #[.string t146, .string (⟨#[]⟩ : ByteArray)] 28 (0, 0)) (by (with_reducible repeat (first | refine blk_drewN ?_ _ | refine blk_drew ?_ | refine blk_alloc ?_ _)); refine blk_put (cs := #[.string t146, .string (⟨#[]⟩ : ByteArray)]) ?_ 1 _ rfl; (with_reducible repeat (first | refine blk_drewN ?_ _ | refine blk_drew ?_ | refine blk_alloc ?_ _)); refine blk_put (cs := #[.string (⟨#[]⟩ : ByteArray), .string (⟨#[]⟩ : ByteArray)]) ?_ 0 _ rfl; (with_reducible repeat (first | refine blk_drewN ?_ _ | refine blk_drew ?_ | refine blk_alloc ?_ _)); exact BK149.out) NB149_145.out (by simp)); have n2_ := Aside0.mk (hb); have n3_ := Aside0.mk (hi); clear BK142; clear BK149; clear HB; clear HI145; have BK142 := n0_; have BK149 := n1_; have HB := n2_; have HI145 := n3_; clear n0_ n1_ n2_ n3_; (try clear hb); (try clear hb2); (try clear hk); (try clear hi); have hcz87_0 : w86.cell? ⟨gb149, 0, none⟩ = some (.string t146) := (blk_cell BK149.out 0).trans rfl; have hcz87_1 : w86.cell? ⟨gb149, 1, none⟩ = some (.string (⟨#[]⟩ : ByteArray)) := (blk_cell BK149.out 1).trans rfl; have hfz87_0 := blk_frozen BK149.out 0; have hfz87_1 := blk_frozen BK149.out 1) | ((with_reducible refine gate_callee (f := 37) rfl ?_); refine goesL_ (some 19) rfl rfl Tryd.func37 (by kernel_rfl) rfl #[.pointer (some ⟨g145, 0, none⟩)] rfl (by (try simp only [List.map_toArray, List.map_cons, List.map_nil]); first | done | rfl | (simp only [List.length_drop, List.length_take]; rfl)) ?_; (with_reducible refine (pack_Reader_Rest.calls g145 t151 t152 t153 t154 t155 w _ ?side1 ?side2 A5.out).mono ?_); (case side1 => repeat (first | (with_reducible first | exact HI145.out | apply IsS88.alloc | apply IsS88.drewN | apply IsS88.drew | apply IsS88.set_0 | apply IsS88.set_1 | refine IsS88.far ?_ NB145_142.out _ | refine IsS88.far ?_ NB145_149.out _) | exact HI145.out)); (case side2 => repeat (first | (with_reducible first | exact HB.out | apply below_alloc | apply pw_below_drewN | apply below_drew1 | refine below_set ?_ (IsS88.ge HI145.out) | refine below_set ?_ GE142.out | refine below_set ?_ GE149.out) | exact HB.out)); rintro e w88 ⟨rfl, hi, hb, hk⟩; refine ⟨_, rfl, ?_⟩; have n0_ := Aside0.mk (KeepBut.blk hk (g' := gb142) (o := .cells #[.string (⟨#[]⟩ : ByteArray), .string (⟨#[]⟩ : ByteArray)] 28 (0, 0)) (by (with_reducible repeat (first | refine blk_drewN ?_ _ | refine blk_drew ?_ | refine blk_alloc ?_ _)); refine blk_far ?_ NB142_149.out _; (with_reducible repeat (first | refine blk_drewN ?_ _ | refine blk_drew ?_ | refine blk_alloc ?_ _)); exact BK142.out) NB142_145.out (by simp)); have n1_ := Aside0.mk (KeepBut.blk hk (g' := gb149) (o := .cells #[.string t146, .string t150] 28 (0, 0)) (by (with_reducible repeat (first | refine blk_drewN ?_ _ | refine blk_drew ?_ | refine blk_alloc ?_ _)); refine blk_put (cs := #[.string t146, .string (⟨#[]⟩ : ByteArray)]) ?_ 1 _ rfl; (with_reducible repeat (first | refine blk_drewN ?_ _ | refine blk_drew ?_ | refine blk_alloc ?_ _)); exact BK149.out) NB149_145.out (by simp)); have n2_ := Aside0.mk (hb); have n3_ := Aside0.mk (hi); clear BK142; clear BK149; clear HB; clear HI145; have BK142 := n0_; have BK149 := n1_; have HB := n2_; have HI145 := n3_; clear n0_ n1_ n2_ n3_; (try clear hb); (try clear hb2); (try clear hk); (try clear hi)) | ((with_reducible refine gate_callee (f := 38) rfl ?_); refine goesL_ (some 21) rfl rfl Tryd.func38 (by kernel_rfl) rfl #[.pointer (some ⟨g145, 0, none⟩)] rfl (by (try simp only [List.map_toArray, List.map_cons, List.map_nil]); first | done | rfl | (simp only [List.length_drop, List.length_take]; rfl)) ?_; (with_reducible refine (pack_Reader_End.calls g145 t154 t155 t156 t157 t158 w _ ?side1 ?side2 A6.out).mono ?_); (case side1 => repeat (first | (with_reducible first | exact HI145.out | apply IsS88.alloc | apply IsS88.drewN | apply IsS88.drew | apply IsS88.set_0 | apply IsS88.set_1 | refine IsS88.far ?_ NB145_142.out _ | refine IsS88.far ?_ NB145_149.out _) | exact HI145.out)); (case side2 => repeat (first | (with_reducible first | exact HB.out | apply below_alloc | apply pw_below_drewN | apply below_drew1 | refine below_set ?_ (IsS88.ge HI145.out) | refine below_set ?_ GE142.out | refine below_set ?_ GE149.out) | exact HB.out)); rintro e w89 ⟨rfl, hi, hb, hk⟩; refine ⟨_, rfl, ?_⟩; have n0_ := Aside0.mk (KeepBut.blk hk (g' := gb142) (o := .cells #[.string (⟨#[]⟩ : ByteArray), .string (⟨#[]⟩ : ByteArray)] 28 (0, 0)) (by (with_reducible repeat (first | refine blk_drewN ?_ _ | refine blk_drew ?_ | refine blk_alloc ?_ _)); exact BK142.out) NB142_145.out (by simp)); have n1_ := Aside0.mk (KeepBut.blk hk (g' := gb149) (o := .cells #[.string t146, .string t150] 28 (0, 0)) (by (with_reducible repeat (first | refine blk_drewN ?_ _ | refine blk_drew ?_ | refine blk_alloc ?_ _)); exact BK149.out) NB149_145.out (by simp)); have n2_ := Aside0.mk (hb); have n3_ := Aside0.mk (hi); clear BK142; clear BK149; clear HB; clear HI145; have BK142 := n0_; have BK149 := n1_; have HB := n2_; have HI145 := n3_; clear n0_ n1_ n2_ n3_; (try clear hb); (try clear hb2); (try clear hk); (try clear hi); have hnb90 := NB142_145.out; have hnc90 := NB145_142.out; have hcz91_0 : w89.cell? ⟨gb142, 0, none⟩ = some (.string (⟨#[]⟩ : ByteArray)) := (blk_cell BK142.out 0).trans rfl; have hcz91_1 : w89.cell? ⟨gb142, 1, none⟩ = some (.string (⟨#[]⟩ : ByteArray)) := (blk_cell BK142.out 1).trans rfl; have hfz91_0 := blk_frozen BK142.out 0; have hfz91_1 := blk_frozen BK142.out 1))
    refine bodyPost_ret (results_ctt rfl _ _ gb142 28 #[.string (⟨#[]⟩ : ByteArray), .string (⟨#[]⟩ : ByteArray)] (0, 0) _ rfl (by (with_reducible repeat (first | refine blk_drewN ?_ _ | refine blk_drew ?_ | refine blk_alloc ?_ _)); refine blk_put (cs := #[.string (⟨#[]⟩ : ByteArray), .string (⟨#[]⟩ : ByteArray)]) ?_ 1 _ rfl; (with_reducible repeat (first | refine blk_drewN ?_ _ | refine blk_drew ?_ | refine blk_alloc ?_ _)); refine blk_put (cs := #[.string (⟨#[]⟩ : ByteArray), .string (⟨#[]⟩ : ByteArray)]) ?_ 0 _ rfl; (with_reducible repeat (first | refine blk_drewN ?_ _ | refine blk_drew ?_ | refine blk_alloc ?_ _)); exact BK142.out) Tryd.underlying28 rfl (by kernel_rfl)) rfl ?_
    exact ⟨by first | rfl | (simp [errW_none, errW_some] <;> rfl) | (simp [*, errW_none, errW_some] <;> rfl), by repeat (first | (with_reducible first | exact HB.out | apply below_alloc | apply pw_below_drewN | apply below_drew1 | refine below_set ?_ (IsS88.ge HI145.out) | refine below_set ?_ GE142.out | refine below_set ?_ GE149.out) | exact HB.out)⟩
end Go.Proofs.YtpgfafpjfdbjmaaDoor.Q
end
section
namespace Go.Proofs.YtpgfafpjfdbjmaaDoor
end Go.Proofs.YtpgfafpjfdbjmaaDoor
end
section
namespace Go.Proofs.YtpgfafpjfdbjmaaDoor
end Go.Proofs.YtpgfafpjfdbjmaaDoor
end
section
namespace Go.Proofs.YtpgfafpjfdbjmaaDoor
open Go.RowKit Q Go.Proofs.YtpgfafpjfdbjmaaDoorW.PrintWords Go.Proofs.YtpgfafpjfdbjmaaDoorW.PrintLast Go.Proofs.YtpgfafpjfdbjmaaDoorW.PrintMore
def nx (s : List UInt8 × Int) : Nat × List UInt8 × Int := if s.2 = 0 then tk s.1 0 0 else (0, s.1, s.2)
def rdn (l : List UInt8) : Nat → List UInt8 × Int
  | 0 => (l, 0)
  | k + 1 => (nx (rdn l k)).2
def val (l : List UInt8) (k : Nat) : Nat := (nx (rdn l k)).1
end Go.Proofs.YtpgfafpjfdbjmaaDoor
end
section
namespace Go.Proofs.YtpgfafpjfdbjmaaDoor
end Go.Proofs.YtpgfafpjfdbjmaaDoor
end
section
namespace Go.Proofs.YtpgfafpjfdbjmaaDoor.Q
end Go.Proofs.YtpgfafpjfdbjmaaDoor.Q
end
section
namespace Go.Proofs.YtpgfafpjfdbjmaaDoor
open Go.RowKit Go.Maps Q Go.Proofs.YtpgfafpjfdbjmaaDoorW.PrintWords Go.Proofs.YtpgfafpjfdbjmaaDoorW.PrintLast
theorem nbt_at (l : List UInt8) (i : Nat) (h : i < l.length) : bt (B l) (i : Int) = ((l[i]).toNat : Int) := by
  rw [bt_B, List.getD, List.getElem?_eq_getElem h]
  rfl
theorem nwrap_k (i : Nat) (h : i ≤ 140737488355328) : wrap64 ((i : Int) + 1) = ((i + 1 : Nat) : Int) := by unfold wrap64; omega
def wrN (k v : List UInt8) : List UInt8 := txt k ++ txt v ++ SHA v
def wroteN (k v : List UInt8) : ByteArray × Int := if chkN k v = 0 then (B (wrN k v), 0) else (⟨#[]⟩, chkN k v)
theorem chkN_small {k v : List UInt8} (h : chkN k v = 0) : k.length ≤ 32 ∧ v.length ≤ 384 ∧ (wrN k v).length ≤ 384 ∧ k ≠ [] := by
  unfold chkN at h
  by_cases h1 : k = [] ∨ 32 < k.length ∨ k.all plainB = false
  · rw [if_pos h1] at h; cases h
  · rw [if_neg h1] at h
    by_cases h2 : 384 < (txt k).length + (txt v).length + 32
    · rw [if_pos h2] at h; cases h
    · have h3 : (txt v).length = (enc v.length).length + v.length := by unfold txt; rw [List.length_append]
      refine ⟨Nat.not_lt.1 fun h => h1 (.inr (.inl h)), by omega, ?_, fun h => h1 (.inl h)⟩
      unfold wrN
      rw [List.length_append, List.length_append, SHA_len]
      omega
theorem sumN_f (v : List UInt8) (hv : v.length ≤ 17592186044416) : digest_Sum.f (B v) = some (B (SHA v)) := by
  unfold digest_Sum.f
  rw [if_pos (by rw [B_size]; exact hv), B_data]
theorem chkN_f (k v : List UInt8) (hv : v.length ≤ 140737488355328) : needle_Check.f (B k) (B v) = some (chkN k v) := by
  unfold needle_Check.f
  rw [if_pos (by rw [B_size]; exact hv), B_data, B_data]
theorem nwrite_f (k v : List UInt8) (hk : k.length ≤ 17592186044416) (hv : v.length ≤ 17592186044416) (K : Nat) (hK : 20 ≤ K) : needle_Write.f K (B k) (B v) = some (wroteN k v) := by
  unfold needle_Write.f wroteN
  rw [chkN_f k v (by omega), Option.bind_some]
  by_cases h : chkN k v = 0
  · have h1 := txt_le k (by omega)
    have h2 := txt_le v (by omega)
    rw [if_pos h, if_pos h, text_f k K (by omega) hK, Option.bind_some, text_f v K (by omega) hK, Option.bind_some, if_pos (by rw [B_size, B_size]; omega), sumN_f v hv, Option.bind_some, B_append, if_pos (by rw [B_size, B_size, List.length_append, SHA_len]; omega), B_append]
    rfl
  · rw [if_neg h, if_neg h]
def rdN (m : List UInt8) : List UInt8 × List UInt8 × List UInt8 × Int :=
  if (tkT m).2.2 = 0 then
    (if (tkT (tkT m).2.1).2.2 = 0 then
      (if (tkT (tkT m).2.1).2.1.length < 32 then ([], [], [], 3)
       else if (tkT (tkT m).2.1).2.1.take 32 = SHA (tkT (tkT m).2.1).1 then
        (if chkN (tkT m).1 (tkT (tkT m).2.1).1 = 0 then ((tkT m).1, (tkT (tkT m).2.1).1, (tkT (tkT m).2.1).2.1.drop 32, 0) else ([], [], [], chkN (tkT m).1 (tkT (tkT m).2.1).1))
       else ([], [], [], 5))
     else ([], [], [], (tkT (tkT m).2.1).2.2))
  else ([], [], [], (tkT m).2.2)
theorem take32 (l : List UInt8) : (B l).extract 0 32 = B (l.take 32) := by
  rw [B_extract, List.drop_zero, Nat.sub_zero]
theorem drop32 (l : List UInt8) : (B l).extract 32 (B l).size = B (l.drop 32) := by
  rw [B_extract, B_size, List.take_of_length_le (by rw [List.length_drop]; exact Nat.le_refl _)]
theorem end_nil (e : Int) : pack_Reader_End.f (B []) e = some (e, B [], e) := by
  unfold pack_Reader_End.f
  rw [B_toList]
  rfl
theorem nread_f (m : List UInt8) (hm : m.length ≤ 17592186044416) (K : Nat) (hK : 21 ≤ K) : needle_Read.f K (B m) = some (B (rdN m).1, B (rdN m).2.1, B (rdN m).2.2.1, (rdN m).2.2.2) := by
  unfold needle_Read.f rdN
  rw [show pack_Read.f (B m) = some (B m, 0) from rfl, Option.bind_some]
  simp only
  rw [rtext_f m K (by omega) hK, Option.bind_some]
  have hle := tkT_le m
  have herr := tkT_err m
  generalize tkT m = t at hle herr ⊢
  obtain ⟨k, r, e⟩ := t
  simp only at hle herr ⊢
  rcases herr with he | he | he
  · subst he
    rw [if_pos rfl, rtext_f r K (by omega) hK, Option.bind_some]
    have hle2 := tkT_le r
    have herr2 := tkT_err r
    generalize tkT r = t2 at hle2 herr2 ⊢
    obtain ⟨v, r2, e2⟩ := t2
    simp only at hle2 herr2 ⊢
    rcases herr2 with he | he | he
    · subst he
      rw [if_pos rfl, show pack_Reader_Rest.f (B r2) 0 = some (B r2, B [], 0) from rfl, Option.bind_some, end_nil, Option.bind_some]
      simp only
      rw [if_pos trivial, B_size]
      by_cases h3 : r2.length < 32
      · rw [if_pos (by omega), if_pos h3]; rfl
      · rw [if_neg (by omega), if_neg h3, if_pos (by decide), if_pos (by omega), sumN_f v (by omega), Option.bind_some, take32, B_toList, B_toList]
        by_cases h4 : r2.take 32 = SHA v
        · rw [if_pos h4, if_pos h4, chkN_f k v (by omega), Option.bind_some]
          by_cases h5 : chkN k v = 0
          · have := drop32 r2
            rw [B_size] at this
            rw [if_pos h5, if_pos h5, this]
          · rw [if_neg h5, if_neg h5]; rfl
        · rw [if_neg h4, if_neg h4]; rfl
    · obtain ⟨rfl, rfl, rfl⟩ : v = [] ∧ r2 = [] ∧ e2 = 3 := by simpa using he
      rw [if_neg (by decide), show pack_Reader_Rest.f (B []) 3 = some (B [], B [], 3) from rfl, Option.bind_some, end_nil, Option.bind_some]
      rfl
    · obtain ⟨rfl, rfl, rfl⟩ : v = [] ∧ r2 = [] ∧ e2 = 4 := by simpa using he
      rw [if_neg (by decide), show pack_Reader_Rest.f (B []) 4 = some (B [], B [], 4) from rfl, Option.bind_some, end_nil, Option.bind_some]
      rfl
  · obtain ⟨rfl, rfl, rfl⟩ : k = [] ∧ r = [] ∧ e = 3 := by simpa using he
    rw [if_neg (by decide), rtext_err (B []) 3 K (by decide) (by omega), Option.bind_some, show pack_Reader_Rest.f (B []) 3 = some (B [], B [], 3) from rfl, Option.bind_some, end_nil, Option.bind_some]
    rfl
  · obtain ⟨rfl, rfl, rfl⟩ : k = [] ∧ r = [] ∧ e = 4 := by simpa using he
    rw [if_neg (by decide), rtext_err (B []) 4 K (by decide) (by omega), Option.bind_some, show pack_Reader_Rest.f (B []) 4 = some (B [], B [], 4) from rfl, Option.bind_some, end_nil, Option.bind_some]
    rfl
theorem rdN_wr (k v r : List UInt8) (h : chkN k v = 0) : rdN (wrN k v ++ r) = (k, v, r, 0) := by
  obtain ⟨hk, hv, _, _⟩ := chkN_small h
  have e1 : tkT (wrN k v ++ r) = (k, txt v ++ (SHA v ++ r), 0) := by
    unfold wrN
    rw [List.append_assoc, List.append_assoc]
    exact tkT_txt k _ (by omega)
  have e2 := tkT_txt v (SHA v ++ r) (by omega)
  unfold rdN
  rw [e1]
  simp only
  rw [e2]
  simp only
  have hl := SHA_len v
  rw [if_pos trivial, if_pos trivial, if_neg (by rw [List.length_append]; omega), List.take_append_of_le_length (by omega), List.take_of_length_le (by omega), if_pos rfl, if_pos h, List.drop_append_of_le_length (by omega), List.drop_of_length_le (by omega), List.nil_append]
theorem rdN_inv (m : List UInt8) (h : (rdN m).2.2.2 = 0) : m = wrN (rdN m).1 (rdN m).2.1 ++ (rdN m).2.2.1 ∧ chkN (rdN m).1 (rdN m).2.1 = 0 := by
  unfold rdN at h ⊢
  by_cases h1 : (tkT m).2.2 = 0
  · rw [if_pos h1] at h ⊢
    by_cases h2 : (tkT (tkT m).2.1).2.2 = 0
    · rw [if_pos h2] at h ⊢
      by_cases h3 : (tkT (tkT m).2.1).2.1.length < 32
      · rw [if_pos h3] at h; cases h
      · rw [if_neg h3] at h ⊢
        by_cases h4 : (tkT (tkT m).2.1).2.1.take 32 = SHA (tkT (tkT m).2.1).1
        · rw [if_pos h4] at h ⊢
          by_cases h5 : chkN (tkT m).1 (tkT (tkT m).2.1).1 = 0
          · rw [if_pos h5]
            refine ⟨?_, h5⟩
            have a1 := (tkT_inv (l := m) (s := (tkT m).1) (r := (tkT m).2.1) (by rw [← h1])).1
            have a2 := (tkT_inv (l := (tkT m).2.1) (s := (tkT (tkT m).2.1).1) (r := (tkT (tkT m).2.1).2.1) (by rw [← h2])).1
            simp only
            unfold wrN
            rw [← h4, List.append_assoc, List.append_assoc, List.take_append_drop, ← a2, ← a1]
          · rw [if_neg h5] at h; exact absurd h h5
        · rw [if_neg h4] at h; cases h
    · rw [if_neg h2] at h; exact absurd h h2
  · rw [if_neg h1] at h; exact absurd h h1
theorem wrN_len (k v : List UInt8) : 32 ≤ (wrN k v).length := by
  unfold wrN
  rw [List.length_append, SHA_len]
  omega
end Go.Proofs.YtpgfafpjfdbjmaaDoor
end
section
namespace Go.Proofs.YtpgfafpjfdbjmaaDoor
open Go.RowKit Go.Maps Q Go.Proofs.YtpgfafpjfdbjmaaDoorW.PrintWords Go.Proofs.YtpgfafpjfdbjmaaDoorW.PrintLast
theorem rdN_lt (m : List UInt8) (h : (rdN m).2.2.2 = 0) : (rdN m).2.2.1.length + 32 ≤ m.length := by
  have h1 := congrArg List.length (rdN_inv m h).1
  have h2 := wrN_len (rdN m).1 (rdN m).2.1
  rw [List.length_append] at h1
  omega
def allN (n : Nat) (l : List (List UInt8 × List UInt8)) (a : List Int) (m : List UInt8) : List (List UInt8 × List UInt8) × List Int × Int :=
  if m = [] then (l, a, 0)
  else if h : (rdN m).2.2.2 = 0 then allN n (l ++ [((rdN m).1, (rdN m).2.1)]) (a ++ [(n : Int) - m.length]) (rdN m).2.2.1
  else ([], [], (rdN m).2.2.2)
termination_by m.length
decreasing_by
  have := rdN_lt m h
  omega
theorem allN_nil (n : Nat) (l : List (List UInt8 × List UInt8)) (a : List Int) : allN n l a [] = (l, a, 0) := by rw [allN, if_pos rfl]
theorem allN_ok {n : Nat} {l : List (List UInt8 × List UInt8)} {a : List Int} {m : List UInt8} (h0 : m ≠ []) (h : (rdN m).2.2.2 = 0) : allN n l a m = allN n (l ++ [((rdN m).1, (rdN m).2.1)]) (a ++ [(n : Int) - m.length]) (rdN m).2.2.1 := by
  rw [allN, if_neg h0, dif_pos h]
theorem allN_bad {n : Nat} {l : List (List UInt8 × List UInt8)} {a : List Int} {m : List UInt8} (h0 : m ≠ []) (h : (rdN m).2.2.2 ≠ 0) : allN n l a m = ([], [], (rdN m).2.2.2) := by
  rw [allN, if_neg h0, dif_neg h]
end Go.Proofs.YtpgfafpjfdbjmaaDoor
end
section
namespace Go.Proofs.YtpgfafpjfdbjmaaDoor
open Go.RowKit
theorem wpIn_range_stops {F : Fence} {n : Nat} {P : Program} {α : Type} {g : Operand} {ps : Array Tmp} {assign body : Code} {Q : Exit → Act → World → Prop} {a : Act} {w : World} (hro : F.round = none) (h1 : 1 ≤ n) {gf : Nat} {lb : Array Value} (hg : a.eval g = .func (.func gf) #[] lb) (hFg : F.fn gf) (eg : ∀ args w, (callFunc gf args).run P w = .ok (.enter gf args) w)
    {encs : α → Array Value} (V : α → World → Prop) (stp : α → Prop) (S Sp : List α → Prop) (N n₀ : Nat) (Bx : World → Prop) (hn₀ : n₀ ≤ w.heap.size) (hps : ∀ x, (encs x).size = ps.size)
    (hseq : ∀ (l : Nat) (J Jx : List α → World → Prop) (W : World), Below w.heap.size w W → (∀ s A B, J s A → A.grownBy B none → J s B) → (∀ s A B, Jx s A → A.grownBy B none → Jx s B) → (∀ s A, J s A → Bx A) →
      (∀ pre x W1, J pre W1 → V x W1 → pre.length < N → YieldAt F (n - 1 - 1) P l (encs x) W1 fun e W' => (e = .returned (.bool true) ∧ ¬ stp x ∧ J (pre ++ [x]) W' ∧ Below n₀ W1 W') ∨ (e = .returned (.bool false) ∧ stp x ∧ Jx (pre ++ [x]) W' ∧ Below n₀ W1 W')) → J [] W →
      CallsIn F (n - 1) P gf (#[.func (.yield l) #[] #[]] ++ lb) W fun e W' => (∃ v, e = .returned v) ∧ ((∃ xs, S xs ∧ J xs W') ∨ (∃ xs, Sp xs ∧ Jx xs W')))
    (I Ix : List α → World → Prop) (hI : OwnFrom w.heap.size I) (hIx : OwnFrom w.heap.size Ix) (hBx : ∀ s A, I s A → Bx A) (h0 : I [] w) (Ax : List α → α → Act → World → Prop) (hAx : ∀ pre x a', OwnFrom w.heap.size (fun (_ : Unit) W => Ax pre x a' W))
    (hassign : ∀ (l : Nat) (pre : List α) (x : α) (W : World) (K : Act → World → Prop), I pre W → V x W → pre.length < N → (∀ a' W', KeepsFrom w.heap.size W W' → Below n₀ W W' → Ax pre x a' W' → K a' W') →
      assign.wpIn (F.inRound l) (n - 1 - 1) P (Exit.then K (fun _ _ _ => False)) { tmps := (ps.zip (encs x)).foldl (fun t (p, v) => t.setIfInBounds p v) a.tmps, defers := [] } W)
    (hbody : ∀ (l : Nat) (pre : List α) (x : α) (a' : Act) (W : World), Ax pre x a' W → body.wpIn (F.inRound l) (n - 1 - 1) P (fun e _ W' => KeepsFrom w.heap.size W W' ∧ Below n₀ W W' ∧ ((e = .normal ∧ ¬ stp x ∧ I (pre ++ [x]) W') ∨ (e = .ret ∧ stp x ∧ Ix (pre ++ [x]) W'))) a' W)
    (hdone : ∀ (D : Nat) (xs : List α) (W : World), w.heap.size ≤ D → S xs → I xs W → W.heap[D]? = some (.deferred (some [])) → Q .normal { a with defers := { target := .collected D, args := #[] } :: a.defers } W)
    (hleft : ∀ (D : Nat) (xs : List α) (W : World), w.heap.size ≤ D → Sp xs → Ix xs W → W.heap[D]? = some (.deferred (some [])) → Q .ret { a with defers := { target := .collected D, args := #[] } :: a.defers } W) :
    (Code.rangeFunc g ps assign body).wpIn F n P Q a w := by
  refine wpIn_rangeFunc fun fn hfn => ?_
  rw [hro]
  obtain ⟨mk, hmk⟩ : ∃ mk : LoopState → Option Code → Loop, mk = fun st pe => { state := st, pending := pe, fn, tmps := a.tmps, params := ps, assign, body, defers := w.heap.size } := ⟨_, rfl⟩
  obtain ⟨W1, hW1⟩ : ∃ W1, (w.alloc (.deferred (some []))).alloc (.loop (mk .ready none)) = W1 := ⟨_, rfl⟩
  have hL1 : W1.heap[w.heap.size + 1]? = some (.loop (mk .ready none)) := by
    have := World.alloc_heap_new (w.alloc (.deferred (some []))) (.loop (mk .ready none))
    rwa [World.size_alloc, hW1] at this
  have hD1 : W1.heap[w.heap.size]? = some (.deferred (some [])) := by
    rw [← hW1]
    exact (Below.heap_alloc _ _ _ (by simp)).trans (World.alloc_heap_new w _)
  have hI1 : I [] W1 := by rw [← hW1]; exact hI.alloc _ (hI.alloc _ h0)
  have hB1 : Below w.heap.size w W1 := by rw [← hW1]; exact ((Below.refl _ w).alloc (Nat.le_refl _) _).alloc (by simp) _
  refine ⟨w.heap.size + 1, [{ target := .collected w.heap.size, args := #[] }], W1, { target := .fn (.func gf) lb, args := #[.func (.yield (w.heap.size + 1)) #[] #[]] }, W1, gf, #[.func (.yield (w.heap.size + 1)) #[] #[]] ++ lb, W1, ?_, ?_, ?_, ?_, fun _ => h1, ?_⟩
  · rw [← hW1, hmk]
    exact run_enterLoop_outer _ _ _ _ _
  · simp only [resolve, hg]
    simp [go_sem]
  · intro f' hf'
    simp [Target.leads] at hf'
    subst hf'
    exact hFg
  · simp [invoke, go_sem, eg]
  · refine (hseq (w.heap.size + 1) (fun pre W => I pre W ∧ W.heap[w.heap.size + 1]? = some (.loop (mk .ready none)) ∧ W.heap[w.heap.size]? = some (.deferred (some []))) (fun pre W => Ix pre W ∧ W.heap[w.heap.size + 1]? = some (.loop (mk .done (some .ret))) ∧ W.heap[w.heap.size]? = some (.deferred (some []))) W1 hB1 ?_ ?_ (fun s A h => hBx s A h.1) ?_ ⟨hI1, hL1, hD1⟩).mono ?_
    · rintro s A B ⟨hi, hl, hd⟩ hgr
      exact ⟨hI s A B none hi hgr (fun r e => by cases e), (hgr.block _ (Array.getElem?_eq_some_iff.1 hl).1 (by simp)).trans hl, (hgr.block _ (Array.getElem?_eq_some_iff.1 hd).1 (by simp)).trans hd⟩
    · rintro s A B ⟨hi, hl, hd⟩ hgr
      exact ⟨hIx s A B none hi hgr (fun r e => by cases e), (hgr.block _ (Array.getElem?_eq_some_iff.1 hl).1 (by simp)).trans hl, (hgr.block _ (Array.getElem?_eq_some_iff.1 hd).1 (by simp)).trans hd⟩
    · rintro pre x W ⟨hi, hl, hd⟩ hv hN
      have hy := run_yield (P := P) (args := encs x) hl (by rw [hmk]; exact hps x)
      rw [hmk] at hy
      refine ⟨fn, _, assign, body, hy, roundIn_of_wpIn hfn (hassign _ pre x W _ hi hv hN ?_)⟩
      clear hy
      intro a' Wa hk hb hax
      have hla := hk.same _ _ (by omega) hl rfl
      have hda := hk.same _ _ (Nat.le_refl _) hd rfl
      have hlt : w.heap.size + 1 < Wa.heap.size := (Array.getElem?_eq_some_iff.1 hla).1
      refine ⟨_, run_beginRound hla (by rw [hmk]), ?_⟩
      have hl2 : (Wa.putObj (w.heap.size + 1) (.loop { mk .ready none with state := .busy })).heap[w.heap.size + 1]? = some (.loop { mk .ready none with state := .busy }) := World.putObj_heap_same hlt
      have hd2 : (Wa.putObj (w.heap.size + 1) (.loop { mk .ready none with state := .busy })).heap[w.heap.size]? = some (.deferred (some [])) := (World.putObj_heap_other (by omega)).trans hda
      have hb2 := belowK_b (w := w) hn₀ Wa (w.heap.size + 1) _ (.loop { mk .ready none with state := .busy }) (by omega) hla rfl rfl
      refine wpIn_mono (hbody _ pre x a' _ ((hAx pre x a').putObj (s := ()) _ hax (by omega) hla rfl)) ?_
      rintro e a3 W3 ⟨hk3, hb3, hend⟩
      have hl3 := hk3.same _ _ (by omega) hl2 rfl
      have hd3 := hk3.same _ _ (Nat.le_refl _) hd2 rfl
      rcases hend with ⟨rfl, hx, hi3⟩ | ⟨rfl, hx, hi3⟩
      · have hr := run_endRound (P := P) none hl3
        rw [hmk] at hr hl3
        refine ⟨_, _, hr, .inl ⟨rfl, hx, ⟨hI.putObj _ hi3 (by omega) hl3 rfl, ?_, (World.putObj_heap_other (by omega)).trans hd3⟩, ?_⟩⟩
        · rw [hmk]
          exact World.putObj_heap_same (Array.getElem?_eq_some_iff.1 hl3).1
        · exact (hb.trans (hb2.trans hb3)).trans (belowK_b (w := w) hn₀ W3 (w.heap.size + 1) _ _ (by omega) hl3 rfl rfl)
      · have hr := run_endRound (P := P) (some .ret) hl3
        rw [hmk] at hr hl3
        refine ⟨_, _, hr, .inr ⟨rfl, hx, ⟨hIx.putObj _ hi3 (by omega) hl3 rfl, ?_, (World.putObj_heap_other (by omega)).trans hd3⟩, ?_⟩⟩
        · rw [hmk]
          exact World.putObj_heap_same (Array.getElem?_eq_some_iff.1 hl3).1
        · exact (hb.trans (hb2.trans hb3)).trans (belowK_b (w := w) hn₀ W3 (w.heap.size + 1) _ _ (by omega) hl3 rfl rfl)
    · rintro e W2 ⟨⟨v, rfl⟩, ⟨xs, hS, hi, hl, hd⟩ | ⟨xs, hS, hi, hl, hd⟩⟩
      · have hr := run_endLoop (P := P) hl (by rw [hmk]; simp)
        rw [hmk] at hr
        exact ⟨none, _, hr, hdone _ xs _ (Nat.le_refl _) hS (hI.putObj _ hi (by omega) hl rfl) ((World.putObj_heap_other (by omega)).trans hd)⟩
      · have hr := run_endLoop (P := P) hl (by rw [hmk]; simp)
        rw [hmk] at hr
        exact ⟨some .ret, _, hr, wpIn_ret (hleft _ xs _ (Nat.le_refl _) hS (hIx.putObj _ hi (by omega) hl rfl) ((World.putObj_heap_other (by omega)).trans hd))⟩
end Go.Proofs.YtpgfafpjfdbjmaaDoor
end
section
namespace Go.Proofs.YtpgfafpjfdbjmaaDoor
open Go.RowKit Go.Proofs.YtpgfafpjfdbjmaaDoorW.PrintLast
section
variable {P : Program} {ops : Array Oper} {Q : Exit → Act → World → Prop} {md : Region.Mode} {l n : Nat}
theorem rows_round {row : String} {args : Array Value} {w : World} {R : Value → World → Prop} (h : Rows P row args w R) : RowsIn (Fence.wide.inRound l) n P row args w R := by
  intro c cs _
  obtain ⟨v, w', r, s⟩ := h c cs
  exact ⟨v, w', r, stepsIn_wide.2 s⟩
theorem wp_round {o : Oper} (hd : ∀ c, o.op ≠ .defer c) {a : Act} {w : World} {K : Act → World → Prop} (h : o.wp P a w K Q) : o.wpIn (Fence.wide.inRound l) n P a w K Q := by
  refine ⟨fun _ _ => trivial, ?_⟩
  rw [Oper.semAt_eq _ _ _ hd]
  unfold Oper.wp at h
  cases hr : (execOp a.eval o).run P w with
  | ok x w' =>
    rw [hr] at h
    cases x with
    | value v => exact h
    | skip => exact h
    | defer d => exact h
    | enter f args => exact ⟨(fun hh => by cases hh), CallsIn.inRound l (callsIn_wide.2 h)⟩
    | row r args => exact ⟨(fun hh => by cases hh), rows_round h⟩
    | round _ _ _ _ _ => exact h.elim
    | _ => exact h.elim
  | halt x w' =>
    rw [hr] at h
    cases x <;> exact h
theorem wpOp_round (hd : ∀ (i : Nat) (o : Oper) c, ops[i]? = some o → o.op ≠ .defer c) (hL : ¬ LetsOut Q) {i : Nat} {K : Act → World → Prop} {a : Act} {w : World} (h : wpOp P ops Q i K a w) : wpOpIn (Fence.wide.inRound l) n P ops Q i K a w := by
  unfold wpOp at h
  unfold wpOpIn
  cases ho : ops[i]? with
  | none =>
    rw [ho] at h
    exact h
  | some o =>
    rw [ho] at h
    simp only at h ⊢
    by_cases hw : Region.wanted o (yielded ops a.tmps) = true
    · rw [if_pos hw] at h ⊢
      rcases h with h | h
      · exact wp_round (fun c => hd i o c ho) h
      · exact absurd h.2 hL
    · rw [if_neg hw] at h ⊢
      exact ⟨fun _ _ => trivial, h⟩
theorem any_round (hd : ∀ (i : Nat) (o : Oper) c, ops[i]? = some o → o.op ≠ .defer c) (hL : ¬ LetsOut Q) : ∀ (fuel : Nat) (listed : Array Bool) (a : Act) (w : World), wpAny P md ops Q fuel listed a w → wpAnyIn (Fence.wide.inRound l) n P md ops Q fuel listed a w
  | 0, _, _, _, h => h
  | fuel + 1, _, _, _, h => ⟨h.1, fun i hi => wpOpIn_mono (fun a' w' h' => any_round hd hL fuel _ a' w' h') (wpOp_round hd hL (h.2 i hi))⟩
def noDefer (o : Oper) : Bool := match o.op with
  | .defer _ => false
  | _ => true
theorem startIn_ {S : World → Prop} {ds : List Nat} {id m : Nat} {a : Act} {w : World} (hd : ops.toList.all noDefer = true) (hL : ¬ LetsOut Q) (lit : Array Bool) (hm : P.follows .mixedOrders = true) (hn : ops.size = m) (hl : Array.replicate m false = lit) (hS : S w.drew)
    (h : S w.drew → wpAnyLast P .any ops Q S ds m lit a w.drew) : (Code.region id ops true).wpIn (Fence.wide.inRound l) n P Q a w := by
  subst hn
  subst hl
  refine wpIn_region_any hm (any_round (fun i o c hi hc => ?_) hL _ _ _ _ (wpAny_of_last _ _ _ _ (h hS)))
  have h1 := List.all_eq_true.1 hd o (by
    rw [← Array.getElem?_toList] at hi
    exact List.mem_of_getElem? hi)
  unfold noDefer at h1
  rw [hc] at h1
  cases h1
end
end Go.Proofs.YtpgfafpjfdbjmaaDoor
end
section
namespace Go.Proofs.YtpgfafpjfdbjmaaDoor
open Go.RowKit Q Go.Proofs.YtpgfafpjfdbjmaaDoorW.PrintWords Go.Proofs.YtpgfafpjfdbjmaaDoorW.PrintLast Go.Proofs.YtpgfafpjfdbjmaaDoorW.PrintMore
attribute [local go_sem] Oper.semAt_some
theorem nskip_none {F : Fence} {p : Prop} (h : p) : (∀ f : FuncId, (none : Option FuncId) = some f → F.fn f) ∧ p := ⟨(fun _ hf => by cases hf), h⟩
theorem ngrown_of {w w' : World} (b : Below w.heap.size w w') : w.grownBy w' none := ⟨b.os, b.tape, b.output, b.size, fun k hk _ => b.block k hk⟩
structure It where
  k : List UInt8
  v : List UInt8
  at_ : Int
  e : Int
def itV (x : It) : Value := .agg #[.string (B x.k), .string (B x.v), .int .i64 x.at_, .int .i64 x.e]
def szB : Value → Nat
  | .string b => b.size
  | _ => 0
theorem nread_k (m : List UInt8) (hm : m.length ≤ 17592186044416) (w : World) : Calls Tryd.prog 15 #[.string (B m)] w fun e w' => e = .returned (.tuple #[.agg #[.string (B (rdN m).1), .string (B (rdN m).2.1)], .string (B (rdN m).2.2.1), .int .i64 (rdN m).2.2.2]) ∧ Below w.heap.size w w' :=
  needle_Read.calls 21 (B m) _ _ _ _ w (nread_f m hm 21 (Nat.le_refl _))
set_option maxRecDepth 100000 in
set_option maxHeartbeats 1000000 in
theorem needles_in (n : Nat) (hn : 1 ≤ n) (l Bn : Nat) (s : List UInt8) (hs : s.length ≤ 1048576) (w0 : World) (J Jx : List It → World → Prop) (hJ : ∀ s A B, J s A → A.grownBy B none → J s B) (hBx : ∀ p A, J p A → A.cell? ⟨Bn, 0, none⟩ = some (.string (B s)))
    (hY : ∀ pre x W1, J pre W1 → True → pre.length < s.length + 1 → YieldAt Fence.wide (n - 1) Tryd.prog l #[itV x] W1 fun e W' => (e = .returned (.bool true) ∧ ¬ x.e ≠ 0 ∧ J (pre ++ [x]) W' ∧ Below w0.heap.size W1 W') ∨ (e = .returned (.bool false) ∧ x.e ≠ 0 ∧ Jx (pre ++ [x]) W' ∧ Below w0.heap.size W1 W'))
    (W : World) (hb0 : Below w0.heap.size w0 W) (h0 : J [] W) :
    CallsIn Fence.wide n Tryd.prog 59 #[.func (.yield l) #[] #[], .pointer (some ⟨Bn, 0, none⟩)] W fun e W' => (∃ v, e = .returned v) ∧ ((∃ ys : List It, allN s.length [] [] s = (ys.map (fun x => (x.k, x.v)), ys.map (fun x => x.at_), 0) ∧ J ys W') ∨ (∃ ys : List It, (∃ pre x, ys = pre ++ [x] ∧ allN s.length [] [] s = ([], [], x.e)) ∧ Jx ys W')) := by
  have HJ := Aside0.mk h0
  have HB := Aside0.mk hb0
  have HY := Aside0.mk hY
  have HG := Aside0.mk hJ
  have HX := Aside0.mk hBx
  have hc := hBx _ _ h0
  clear h0 hb0 hY hJ hBx
  refine callsIn_of_wp Tryd.func59 rfl trivial ?_ rfl
  simp only [Tryd.ntmps59, List.size_toArray, List.length_cons, List.length_nil, Nat.reduceAdd, Nat.reduceSub, Array.replicate_succ, Array.replicate_zero, List.push_toArray, List.append_toArray, List.nil_append, List.cons_append]
  gi_wp2
  clear hc
  gi_loopw [3] (fun i wr => ∃ (m : List UInt8) (pre : List It), i = .string (B m) ∧ m.length + pre.length ≤ s.length ∧ Aside0 (allN s.length (pre.map (fun x => (x.k, x.v))) (pre.map (fun x => x.at_)) m = allN s.length [] [] s) ∧ Aside0 (J pre wr) ∧ Aside0 (Below w0.heap.size w0 wr)) (fun i _ => szB i)
  case atStart => exact ⟨s, [], rfl, by simp, ⟨rfl⟩, HJ, HB⟩
  case round =>
    clear HJ HB
    obtain ⟨m, pre, rfl, hml, HP, HJ, HB⟩ := hrel
    have hc := HX.out _ _ HJ.out
    by_cases h0 : m = []
    case pos =>
      have hq : (B m).toList.isEmpty = true := by rw [B_toList, h0]; rfl
      subst h0
      have h := HP.out
      rw [allN_nil] at h
      replace HP := Aside0.mk h
      clear h
      gi_wp2
      go_end0
      exact ⟨⟨_, rfl⟩, .inl ⟨pre, HP.out.symm, HJ.out⟩⟩
    case neg =>
      have hq : (B m).toList.isEmpty = false := by rw [B_toList]; cases m with
        | nil => exact absurd rfl h0
        | cons a l => rfl
      obtain ⟨⟨k, v, r, e⟩, hr⟩ : ∃ p, rdN m = p := ⟨_, rfl⟩
      have HR := nread_k m (by omega) wr
      have hw : wrap64 (((B s).size : Int) - ((B m).size : Int)) = (s.length : Int) - m.length := by rw [B_size, B_size]; unfold wrap64; omega
      have hok : e = 0 → r.length + 32 ≤ m.length ∧ allN s.length (pre.map (fun x => (x.k, x.v)) ++ [(k, v)]) (pre.map (fun x => x.at_) ++ [wrap64 (((B s).size : Int) - ((B m).size : Int))]) r = allN s.length [] [] s := by
        intro he
        have h1 := rdN_lt m (by rw [hr]; exact he)
        have h2 := allN_ok (n := s.length) (l := pre.map (fun x => (x.k, x.v))) (a := pre.map (fun x => x.at_)) h0 (by rw [hr]; exact he)
        rw [HP.out] at h2
        rw [hr] at h1 h2
        rw [hw]
        exact ⟨h1, h2.symm⟩
      have hbad : e ≠ 0 → allN s.length [] [] s = ([], [], e) := by
        intro he
        rw [← HP.out, allN_bad h0 (by rw [hr]; exact he), hr]
      rw [hr] at HR
      replace HR := Aside0.mk HR
      have HOK := Lib.hid hok
      have HBAD := Lib.hid hbad
      clear hr hw hok hbad HP
      have HL := Lib.hid hml
      have HN := Lib.hid h0
      clear hml h0
      have hF : Fence.wide.fn 15 := trivial
      gi_wp2_with (first | (gi_at_call 15; refine (callsIn_wide.2 HR.out).mono ?_; rintro e0 w1 ⟨rfl, b1⟩; clear HR; replace HJ := Aside0.mk (HG.out _ _ _ HJ.out (ngrown_of b1)); replace HB := Aside0.mk (below2 HB.out HB.out.size b1); clear hc b1; obtain ⟨fn, tmps, assign, body, hy, hRd⟩ := HY.out pre ⟨k, v, wrap64 (((B s).size : Int) - ((B m).size : Int)), e⟩ (w1.alloc (.cells #[.string (B k), .string (B v)] 28)) (HG.out _ _ _ HJ.out (ngrown_of (below_alloc (Below.refl _ _) _))) trivial (by have := HL.out; omega); dsimp only [itV] at hy))
      refine hRd.mono ?_
      rintro e3 W3 (⟨rfl, he, hJ3, hk3⟩ | ⟨rfl, he, hJ3, hk3⟩)
      · have he : e = 0 := Classical.not_not.mp he
        obtain ⟨h1, h2⟩ := HOK.out he
        have H1 := Lib.hid h1
        have H2 := Lib.hid h2
        subst he
        clear h1 h2 HOK HBAD
        gi_wp2
        go_roundw
        case rel => exact ⟨r, pre ++ [⟨k, v, wrap64 (((B s).size : Int) - ((B m).size : Int)), 0⟩], rfl, by have := H1.out; have := HL.out; rw [List.length_append]; simp only [List.length_cons, List.length_nil]; omega, ⟨by rw [List.map_append, List.map_append]; exact H2.out⟩, ⟨hJ3⟩, ⟨(below_alloc HB.out _).trans hk3⟩⟩
        case measure => have := H1.out; simp only [szB, B_size]; omega
      · have he2 : (e != 0) = true := bne_iff_ne.mpr he
        gi_wp2_with (with_reducible refine nskip_none ?_)
        refine bodyPost_ret (results_none rfl _ _ _) rfl ?_
        exact ⟨⟨_, rfl⟩, .inr ⟨_, ⟨_, _, rfl, HBAD.out he⟩, hJ3⟩⟩
end Go.Proofs.YtpgfafpjfdbjmaaDoor
end
section
namespace Go.Proofs.YtpgfafpjfdbjmaaDoor
open Go.RowKit Q Go.Proofs.YtpgfafpjfdbjmaaDoorW.PrintWords Go.Proofs.YtpgfafpjfdbjmaaDoorW.PrintLast Go.Proofs.YtpgfafpjfdbjmaaDoorW.PrintMore
theorem ngrown_set (w : World) (g i : Nat) (v : Value) : w.grownBy (w.setCell ⟨g, i, none⟩ v) (some g) := ⟨rfl, rfl, rfl, by simp, fun k _ hk => Below.heap_setCell w ⟨g, i, none⟩ v k (fun e => hk (by rw [e]))⟩
theorem ngrown_below {w w' : World} (b : Below w.heap.size w w') (r : Option Nat) : w.grownBy w' r := ⟨b.os, b.tape, b.output, b.size, fun k hk _ => b.block k hk⟩
theorem nR_step {α : Type} {d : Kd α} {e base : Nat} {W W1 : World} {ok : Nat → Prop} {v : Value} {xs : List α} {row : Option Nat} (h : d.R e W base ok v xs) (hg : W.grownBy W1 row) (t : TypeId) (hrow : ∀ k, row = some k → ∃ cells, W.heap[k]? = some (.cells cells t (0, 0))) (ht : ∀ q, q ∈ e :: d.E → q ≠ t) : d.R e W1 base ok v xs :=
  Kd.R_mono (Kd.R_move (Kd.R_bound h) (fun k hk => hg.block k hk.2.2.1 (fun e' => by
    obtain ⟨_, _, _, q, hq, cells, hc⟩ := hk
    obtain ⟨cells2, hc2⟩ := hrow k e'.symm
    rw [hc] at hc2
    injection hc2 with hc2
    injection hc2 with _ hc2
    exact ht q hq hc2))) (fun _ hk => hk.1)
theorem nbox_step {W W1 : World} {B : Nat} {T : TypeId} {v : Value} {row : Option Nat} (h : Boxed W B T v) (hg : W.grownBy W1 row) (t : TypeId) (hrow : ∀ k, row = some k → ∃ cells, W.heap[k]? = some (.cells cells t (0, 0))) (ht : T ≠ t) : Boxed W1 B T v :=
  h.kept hg (fun e => by
    obtain ⟨cells2, hc2⟩ := hrow B e.symm
    rw [show W.heap[B]? = _ from h] at hc2
    injection hc2 with hc2
    injection hc2 with _ hc2
    exact ht hc2)
theorem nblk_step {W W1 : World} {g : Nat} {c : Array Value} {T : TypeId} {row : Option Nat} (h : Blk W g c T) (hg : W.grownBy W1 row) (t : TypeId) (hrow : ∀ k, row = some k → ∃ cells, W.heap[k]? = some (.cells cells t (0, 0))) (ht : T ≠ t) : Blk W1 g c T :=
  (hg.block g h.lt (fun e => by
    obtain ⟨cells2, hc2⟩ := hrow g e.symm
    rw [show W.heap[g]? = _ from h] at hc2
    injection hc2 with hc2
    injection hc2 with _ hc2
    exact ht hc2)).trans h
theorem nR_calm {α : Type} {d : Kd α} {e base : Nat} {ok : Nat → Prop} {X Y : World} {v : Value} {xs : List α} {row : Option Nat} (h : d.R e X base ok v xs) (hg : X.grownBy Y row) (hr : ∀ r, row = some r → ∃ o : Obj, X.heap[r]? = some o ∧ o.isCells = false) : d.R e Y base ok v xs :=
  Kd.R_mono (Kd.R_move (Kd.R_bound h) (fun k hk => hg.block k hk.2.2.1 (fun e' => by
    obtain ⟨_, _, _, q, _, cells, hc⟩ := hk
    obtain ⟨o, ho, hn⟩ := hr k e'.symm
    rw [hc] at ho
    cases ho
    cases hn))) (fun _ hk => hk.1)
theorem nblk_calm {X Y : World} {g : Nat} {c : Array Value} {T : TypeId} {row : Option Nat} (h : Blk X g c T) (hg : X.grownBy Y row) (hr : ∀ r, row = some r → ∃ o : Obj, X.heap[r]? = some o ∧ o.isCells = false) : Blk Y g c T :=
  (hg.block g (Array.getElem?_eq_some_iff.1 (show X.heap[g]? = _ from h)).1 (fun e' => by
    obtain ⟨o, ho, hn⟩ := hr g e'.symm
    rw [show X.heap[g]? = _ from h] at ho
    cases ho
    cases hn)).trans h
theorem nbelow_between {n : Nat} {w W W1 : World} (b1 : Below n w W) (b2 : Below n w W1) (hs : W.heap.size ≤ W1.heap.size) : Below n W W1 :=
  ⟨b2.os.trans b1.os.symm, b2.tape.trans b1.tape.symm, b2.output.trans b1.output.symm, hs, fun k hk => (b2.block k hk).trans (b1.block k hk).symm⟩
theorem nkeeps_typed {B : Nat} {W W1 : World} {row : Option Nat} (hg : W.grownBy W1 row) {t : TypeId} (hrow : ∀ k, row = some k → ∃ cells, W.heap[k]? = some (.cells cells t (0, 0))) : KeepsFrom B W W1 :=
  ⟨hg.size, fun k o _ hk ho => (hg.block k (Array.getElem?_eq_some_iff.1 hk).1 (fun e => by
    obtain ⟨cells, hc⟩ := hrow k e.symm
    rw [hc] at hk
    cases hk
    cases ho)).trans hk⟩
theorem nkeeps_below {B : Nat} {W W1 : World} (b : Below W.heap.size W W1) : KeepsFrom B W W1 := nkeeps_typed (t := 0) (ngrown_below b none) (fun k e => by cases e)
theorem nload_box {P : Program} {W : World} {B : Nat} {T : TypeId} {v : Value} {d : TypeDesc} (h : Boxed W B T v) (hu : P.underlying T = some d) (hd : (match d with | .struct _ | .array _ _ => true | _ => false) = false) : (loadVar T ⟨B, 0, none⟩).run P W = .ok v W := by
  have hc := h.cell
  have hagg : (isAgg T).run P W = .ok false W := by
    unfold isAgg
    rw [Sem.run_bind, run_underlying hu W]
    cases d <;> simp_all
  unfold loadVar
  rw [Sem.run_bind, hagg]
  simp [hc]
theorem nresults_ccc {P : Program} {fn : Func} {p q r : Tmp} {t1 t2 t3 : TypeId} (h : fn.results = #[.cell p t1, .cell q t2, .cell r t3]) (tmps : Array Value) (W : World) {B1 B2 B3 : Nat} {v1 v2 v3 : Value} {d1 d2 d3 : TypeDesc}
    (hp : tmps.getD p undef = .pointer (some ⟨B1, 0, none⟩)) (hq : tmps.getD q undef = .pointer (some ⟨B2, 0, none⟩)) (hr : tmps.getD r undef = .pointer (some ⟨B3, 0, none⟩)) (h1 : Boxed W B1 t1 v1) (h2 : Boxed W B2 t2 v2) (h3 : Boxed W B3 t3 v3)
    (u1 : P.underlying t1 = some d1) (e1 : (match d1 with | .struct _ | .array _ _ => true | _ => false) = false) (u2 : P.underlying t2 = some d2) (e2 : (match d2 with | .struct _ | .array _ _ => true | _ => false) = false) (u3 : P.underlying t3 = some d3) (e3 : (match d3 with | .struct _ | .array _ _ => true | _ => false) = false) :
    (results fn tmps).run P W = .ok (.tuple #[v1, v2, v3]) W := by
  have hp' : tmps[p]?.getD undef = .pointer (some ⟨B1, 0, none⟩) := by simpa using hp
  have hq' : tmps[q]?.getD undef = .pointer (some ⟨B2, 0, none⟩) := by simpa using hq
  have hr' : tmps[r]?.getD undef = .pointer (some ⟨B3, 0, none⟩) := by simpa using hr
  simp [results, h, hp', hq', hr', asAddr, nload_box h1 u1 e1, nload_box h2 u2 e2, nload_box h3 u3 e3]
theorem nreads1 {W : World} {g t : Nat} {p : Int} (h : Blk W g #[.int .i64 p] t) : ReadsRow (fun (y : Int) cs => cs = [.int .i64 y]) 1 W (some ⟨g, 0, none⟩) 1 [p] :=
  ⟨rfl, by decide, fun _ => ⟨_, rfl, fun j q hj => by
    match j, hj with
    | 0, hj =>
      cases hj
      exact ⟨[.int .i64 p], rfl, rfl, fun i u hu => by
        match i, hu with
        | 0, hu => cases hu; exact h.cell rfl⟩⟩⟩
theorem nreads2 {W : World} {g t : Nat} {k v : ByteArray} (h : Blk W g #[.string k, .string v] t) : ReadsRow (fun (y : S28) cs => cs = [.string y.f0, .string y.f1]) 2 W (some ⟨g, 0, none⟩) 1 [⟨k, v⟩] :=
  ⟨rfl, by decide, fun _ => ⟨_, rfl, fun j q hj => by
    match j, hj with
    | 0, hj =>
      cases hj
      exact ⟨[.string k, .string v], rfl, rfl, fun i u hu => by
        match i, hu with
        | 0, hu => cases hu; exact h.cell rfl
        | 1, hu => cases hu; exact h.cell rfl⟩⟩⟩
end Go.Proofs.YtpgfafpjfdbjmaaDoor
end
