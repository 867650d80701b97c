/- Lemmas for the law StripeBack, merged out of several texts and cut down to what it names, by a program of this session (some of the first ones are of the words that print.sh wrote for this claim). -/
import Derived.RangeFuncNested
import Derived.Test.YtdcfonmjbelgbaaDoorProg
import Derived.OrdersIn
import Derived.RangeFuncCalls
import Derived.RangeFuncLeaves
import Derived.Shelf.Abstract
import Derived.OwnWalkIn
import Derived.TacticsInMore
import Derived.LoopNIn
import Derived.LoopIn
import Derived.Laws.Rows
import Derived.Lib.ConvBytes
import Derived.Test.YtdcfonmjbelgbaaDoorKStripeBack1
import Derived.Test.YtdcfonmjbelgbaaDoorKStripeBack2
import Derived.Test.YtdcfonmjbelgbaaDoorKStripeBack3
set_option linter.unusedVariables false
set_option linter.unusedSimpArgs false
section
namespace Go.Proofs.YtdcfonmjbelgbaaDoor
open Go.RowKit Q Go.Proofs.YtdcfonmjbelgbaaDoorW.PrintWords Go.Proofs.YtdcfonmjbelgbaaDoorW.PrintLast Go.Proofs.YtdcfonmjbelgbaaDoorW.PrintMore
def idx (h : List Bool) : List Nat := (List.range h.length).filter fun i => h.getD i false
def idxK (h : List Bool) (k : Nat) : List Nat := (List.range k).filter fun i => h.getD i false
theorem idxK_succ (h : List Bool) (k : Nat) : idxK h (k + 1) = idxK h k ++ if h.getD k false = true then [k] else [] := by
  unfold idxK
  rw [List.range_succ, List.filter_append]
  congr 1
  simp [List.filter_cons]
theorem idxK_len (h : List Bool) (k : Nat) : (idxK h k).length ≤ k := by
  have := List.length_filter_le (fun i => h.getD i false) (List.range k)
  simpa [idxK] using this
def leftL (l : List ByteArray) (h : List Bool) : List ByteArray := (idx h).map (strAt l)
def dataK (R : List (List Nat)) (l : List ByteArray) (k : Nat) : List ByteArray := (List.range k).map fun i => mixS (rowAt R i) l
theorem dataK_succ (R : List (List Nat)) (l : List ByteArray) (k : Nat) : dataK R l k ++ [mixS (rowAt R k) l] = dataK R l (k + 1) := by
  unfold dataK
  rw [List.range_succ, List.map_append]
  rfl
theorem dataK_len (R : List (List Nat)) (l : List ByteArray) (k : Nat) : (dataK R l k).length = k := by simp [dataK]
def dataL (l : List ByteArray) (h : List Bool) : List ByteArray := dataK (solveN (((idx h).take 6).map frow)) ((leftL l h).take 6) 6
def fillR (l : List ByteArray) (h : List Bool) : List ByteArray × Int :=
  if l.length = 9 ∧ h.length = 9 then
    if evenB (leftL l h) = true then if (idx h).length < 6 then ([], 2) else encR (dataL l h) else ([], 1)
  else ([], 1)
def kPtr : Kd Nat := Kd.scalar sl (fun _ => rfl)
theorem infoPtr : (Tryd.prog.info? 70).map (fun i => (i.zero, i.size, i.bytes)) = some (some (.slice none 0 0), 1, 24) := by kernel_rfl
theorem R_step_typed {α : Type} {d : Kd α} {e base : Nat} {W W1 : World} {ok : Nat → Prop} {v : Value} {xs : List α} {row : Option Nat} (h : d.R e W base ok v xs) (hg : W.grownBy W1 row) (t : TypeId) (hrow : ∀ k, row = some k → ∃ cells, W.heap[k]? = some (.cells cells t (0, 0))) (ht : ∀ q, q ∈ e :: d.E → q ≠ t) : d.R e W1 base ok v xs :=
  Kd.R_mono (Kd.R_move (Kd.R_bound h) (fun k hk => hg.block k hk.2.2.1 (fun e' => by
    obtain ⟨_, _, _, q, hq, cells, hc⟩ := hk
    obtain ⟨cells2, hc2⟩ := hrow k e'.symm
    rw [hc] at hc2
    injection hc2 with hc2
    injection hc2 with _ hc2
    exact ht q hq hc2))) (fun _ hk => hk.1)
theorem box_step_typed {W W1 : World} {B : Nat} {T : TypeId} {v : Value} {row : Option Nat} (h : Boxed W B T v) (hg : W.grownBy W1 row) (t : TypeId) (hrow : ∀ k, row = some k → ∃ cells, W.heap[k]? = some (.cells cells t (0, 0))) (ht : T ≠ t) : Boxed W1 B T v :=
  h.kept hg (fun e => by
    obtain ⟨cells2, hc2⟩ := hrow B e.symm
    rw [show W.heap[B]? = _ from h] at hc2
    injection hc2 with hc2
    injection hc2 with _ hc2
    exact ht hc2)
theorem row_step_typed {W W1 : World} {b : Nat} {xs : List Nat} {row : Option Nat} (h : RowN W b xs) (hg : W.grownBy W1 row) (t : TypeId) (hrow : ∀ k, row = some k → ∃ cells, W.heap[k]? = some (.cells cells t (0, 0))) (ht : 5 ≠ t) : RowN W1 b xs :=
  h.grown hg (fun e => by
    obtain ⟨cells2, hc2⟩ := hrow b e.symm
    rw [show W.heap[b]? = _ from h] at hc2
    injection hc2 with hc2
    injection hc2 with _ hc2
    exact ht hc2)
structure Fi (g Bt Bs BL BR : Nat) (S : Value) (w0 : World) (uL uR vL vR : Value) (LL : List ByteArray) (IX P : List Nat) (W : World) : Prop where
  bt : Boxed W Bt 52 (.pointer (some ⟨g, 0, none⟩))
  bs : Boxed W Bs 30 S
  bl : Boxed W BL 30 uL
  br : Boxed W BR 107 uR
  oL : Kd.R Kd.string 9 W w0.heap.size (fun k => w0.heap.size ≤ k) vL LL
  oR : Kd.R kPtr 70 W w0.heap.size (fun k => w0.heap.size ≤ k) vR P
  lP : P.length = IX.length
  rw : ∀ i, i < P.length → RowN W (P.getD i 0) (frow (IX.getD i 0))
  nd : P.Nodup
  sP : ∀ x ∈ P, w0.heap.size ≤ x ∧ x < W.heap.size
  bw : Below w0.heap.size w0 W
  ns : Bs ≠ BL
  nl : w0.heap.size ≤ BL
  nr : w0.heap.size ≤ BR
section
variable {g Bt Bs BL BR : Nat} {S : Value} {w0 W W1 : World} {uL uR vL vR : Value} {LL : List ByteArray} {IX P : List Nat}
theorem Fi.step (h : Fi g Bt Bs BL BR S w0 uL uR vL vR LL IX P W) {row : Option Nat} (hg : W.grownBy W1 row) (t : TypeId) (hrow : ∀ k, row = some k → w0.heap.size ≤ k ∧ ∃ cells, W.heap[k]? = some (.cells cells t (0, 0))) (ht : t ≠ 52 ∧ t ≠ 30 ∧ t ≠ 107 ∧ t ≠ 9 ∧ t ≠ 70 ∧ t ≠ 5) : Fi g Bt Bs BL BR S w0 uL uR vL vR LL IX P W1 :=
  have hr := fun k e => (hrow k e).2
  { h with
    bt := box_step_typed h.bt hg t hr (Ne.symm ht.1)
    bs := box_step_typed h.bs hg t hr (Ne.symm ht.2.1)
    bl := box_step_typed h.bl hg t hr (Ne.symm ht.2.1)
    br := box_step_typed h.br hg t hr (Ne.symm ht.2.2.1)
    oL := R_step_typed h.oL hg t hr (fun q hq => by rcases List.mem_cons.1 hq with rfl | hq; exact Ne.symm ht.2.2.2.1; cases hq)
    oR := R_step_typed h.oR hg t hr (fun q hq => by rcases List.mem_cons.1 hq with rfl | hq; exact Ne.symm ht.2.2.2.2.1; cases hq)
    rw := fun i hi => row_step_typed (h.rw i hi) hg t hr (Ne.symm ht.2.2.2.2.2)
    sP := fun x hx => ⟨(h.sP x hx).1, Nat.lt_of_lt_of_le (h.sP x hx).2 hg.size⟩
    bw := h.bw.grown hg h.bw.size (fun k e => (hrow k e).1) }
theorem Fi.below (h : Fi g Bt Bs BL BR S w0 uL uR vL vR LL IX P W) (b : Below W.heap.size W W1) : Fi g Bt Bs BL BR S w0 uL uR vL vR LL IX P W1 :=
  h.step (grown_below b none) 0 (fun k e => by cases e) (by decide)
theorem Fi.calm (h : Fi g Bt Bs BL BR S w0 uL uR vL vR LL IX P W) {row : Option Nat} (hg : W.grownBy W1 row) (hr : ∀ r, row = some r → w0.heap.size ≤ r ∧ ∃ o : Obj, W.heap[r]? = some o ∧ o.isCells = false) : Fi g Bt Bs BL BR S w0 uL uR vL vR LL IX P W1 := by
  have ne : ∀ (k : Nat) (cells : Array Value) (t : TypeId), W.heap[k]? = some (.cells cells t (0, 0)) → some k ≠ row := fun k cells t hc e => by
    obtain ⟨_, o, ho, hn⟩ := hr k e.symm
    rw [hc] at ho
    cases ho
    cases hn
  have Rk : ∀ {α : Type} {d : Kd α} {e : Nat} {v : Value} {xs : List α}, d.R e W w0.heap.size (fun k => w0.heap.size ≤ k) v xs → d.R e W1 w0.heap.size (fun k => w0.heap.size ≤ k) v xs := fun hR =>
    Kd.R_mono (Kd.R_move (Kd.R_bound hR) (fun k hk => hg.block k hk.2.2.1 (by
      obtain ⟨_, _, _, q, _, cells, hc⟩ := hk
      exact ne k cells q hc))) (fun _ hk => hk.1)
  exact
  { h with
    bt := h.bt.kept hg (ne _ _ _ h.bt)
    bs := h.bs.kept hg (ne _ _ _ h.bs)
    bl := h.bl.kept hg (ne _ _ _ h.bl)
    br := h.br.kept hg (ne _ _ _ h.br)
    oL := Rk h.oL
    oR := Rk h.oR
    rw := fun i hi => (h.rw i hi).grown hg (ne _ _ _ (h.rw i hi))
    sP := fun x hx => ⟨(h.sP x hx).1, Nat.lt_of_lt_of_le (h.sP x hx).2 hg.size⟩
    bw := h.bw.grown hg h.bw.size (fun k e => (hr k e).1) }
theorem Fi.left (h : Fi g Bt Bs BL BR S w0 uL uR vL vR LL IX P W) {v1 : Value} {s : ByteArray} (hR : Kd.R Kd.string 9 W1 w0.heap.size (fun k => w0.heap.size ≤ k) v1 (LL ++ [s])) (hg : W.grownBy W1 vL.ownBlock) : Fi g Bt Bs BL BR S w0 uL uR v1 vR (LL ++ [s]) IX P W1 :=
  have hr : ∀ k, vL.ownBlock = some k → ∃ cells, W.heap[k]? = some (.cells cells 9 (0, 0)) := fun k e => Kd.R_typed h.oL k e
  { h with
    bt := box_step_typed h.bt hg _ hr (by decide)
    bs := box_step_typed h.bs hg _ hr (by decide)
    bl := box_step_typed h.bl hg _ hr (by decide)
    br := box_step_typed h.br hg _ hr (by decide)
    oL := hR
    oR := R_step_typed h.oR hg _ hr (fun q hq => by rcases List.mem_cons.1 hq with rfl | hq; decide; cases hq)
    rw := fun i hi => row_step_typed (h.rw i hi) hg _ hr (by decide)
    sP := fun x hx => ⟨(h.sP x hx).1, Nat.lt_of_lt_of_le (h.sP x hx).2 hg.size⟩
    bw := h.bw.grown hg h.bw.size (fun k e => h.oL.1 k e) }
theorem Fi.row (h : Fi g Bt Bs BL BR S w0 uL uR vL vR LL IX P W) {v1 : Value} {b i : Nat} (hR : Kd.R kPtr 70 W1 w0.heap.size (fun k => w0.heap.size ≤ k) v1 (P ++ [b])) (hg : W.grownBy W1 vR.ownBlock) (hb : RowN W b (frow i)) (hn : ∀ x ∈ P, x < b) (hs : w0.heap.size ≤ b) : Fi g Bt Bs BL BR S w0 uL uR vL v1 LL (IX ++ [i]) (P ++ [b]) W1 :=
  have hr : ∀ k, vR.ownBlock = some k → ∃ cells, W.heap[k]? = some (.cells cells 70 (0, 0)) := fun k e => Kd.R_typed h.oR k e
  have hb1 := row_step_typed hb hg _ hr (by decide)
  { h with
    bt := box_step_typed h.bt hg _ hr (by decide)
    bs := box_step_typed h.bs hg _ hr (by decide)
    bl := box_step_typed h.bl hg _ hr (by decide)
    br := box_step_typed h.br hg _ hr (by decide)
    oL := R_step_typed h.oL hg _ hr (fun q hq => by rcases List.mem_cons.1 hq with rfl | hq; decide; cases hq)
    oR := hR
    lP := by rw [List.length_append, List.length_append, h.lP]; rfl
    rw := fun j hj => by
      rw [List.length_append, List.length_singleton] at hj
      by_cases hjp : j < P.length
      · have e1 : (P ++ [b]).getD j 0 = P.getD j 0 := by simp [List.getD_eq_getElem?_getD, List.getElem?_append_left hjp]
        have e2 : (IX ++ [i]).getD j 0 = IX.getD j 0 := by simp [List.getD_eq_getElem?_getD, List.getElem?_append_left (show j < IX.length by rw [← h.lP]; exact hjp)]
        rw [e1, e2]
        exact row_step_typed (h.rw j hjp) hg _ hr (by decide)
      · obtain rfl : j = P.length := by omega
        have e1 : (P ++ [b]).getD P.length 0 = b := by simp [List.getD_eq_getElem?_getD]
        have e2 : (IX ++ [i]).getD P.length 0 = i := by rw [h.lP]; simp [List.getD_eq_getElem?_getD]
        rw [e1, e2]
        exact hb1
    nd := by
      rw [List.nodup_append]
      refine ⟨h.nd, by simp, fun x hx y hy => ?_⟩
      rw [List.mem_singleton] at hy
      have := hn x hx
      omega
    sP := fun x hx => by
      rcases List.mem_append.1 hx with hx | hx
      · exact ⟨(h.sP x hx).1, Nat.lt_of_lt_of_le (h.sP x hx).2 hg.size⟩
      · rw [List.mem_singleton] at hx
        subst hx
        exact ⟨hs, hb1.lt⟩
    bw := h.bw.grown hg h.bw.size (fun k e => h.oR.1 k e) }
theorem Fi.put (h : Fi g Bt Bs BL BR S w0 uL uR vL vR LL IX P W) (xL xR : Value) : Fi g Bt Bs BL BR S w0 xL xR vL vR LL IX P ((W.setCell ⟨BL, 0, none⟩ xL).setCell ⟨BR, 0, none⟩ xR) := by
  have g1 := grown_set W BL 0 xL
  have g2 := grown_set (W.setCell ⟨BL, 0, none⟩ xL) BR 0 xR
  have r1 : ∀ k, some BL = some k → ∃ cells, W.heap[k]? = some (.cells cells 30 (0, 0)) := fun k e => by injection e with e; subst e; exact ⟨_, h.bl⟩
  have hbr : Boxed (W.setCell ⟨BL, 0, none⟩ xL) BR 107 uR := box_step_typed h.br g1 _ r1 (by decide)
  have r2 : ∀ k, some BR = some k → ∃ cells, (W.setCell ⟨BL, 0, none⟩ xL).heap[k]? = some (.cells cells 107 (0, 0)) := fun k e => by injection e with e; subst e; exact ⟨_, hbr⟩
  exact
  { h with
    bt := box_step_typed (box_step_typed h.bt g1 _ r1 (by decide)) g2 _ r2 (by decide)
    bs := box_step_typed (h.bs.kept g1 (fun e => h.ns (by injection e))) g2 _ r2 (by decide)
    bl := box_step_typed (h.bl.set xL) g2 _ r2 (by decide)
    br := hbr.set xR
    oL := R_step_typed (R_step_typed h.oL g1 _ r1 (fun q hq => by rcases List.mem_cons.1 hq with rfl | hq; decide; cases hq)) g2 _ r2 (fun q hq => by rcases List.mem_cons.1 hq with rfl | hq; decide; cases hq)
    oR := R_step_typed (R_step_typed h.oR g1 _ r1 (fun q hq => by rcases List.mem_cons.1 hq with rfl | hq; decide; cases hq)) g2 _ r2 (fun q hq => by rcases List.mem_cons.1 hq with rfl | hq; decide; cases hq)
    rw := fun i hi => row_step_typed (row_step_typed (h.rw i hi) g1 _ r1 (by decide)) g2 _ r2 (by decide)
    sP := fun x hx => ⟨(h.sP x hx).1, by have := (h.sP x hx).2; simpa using this⟩
    bw := (h.bw.setCell (p := ⟨BL, 0, none⟩) h.nl _).setCell (p := ⟨BR, 0, none⟩) h.nr _ }
theorem Fi.ptr (h : Fi g Bt Bs BL BR S w0 uL uR vL vR LL IX P W) (h0 : 0 < P.length) : ∃ gR cR, vR = .slice (some ⟨gR, 0, none⟩) P.length cR ∧ w0.heap.size ≤ gR ∧ Ptr W gR P ∧ P.length ≤ cR := by
  have ho := Kd.own_of_R (h1 := fun _ => rfl) h.oR
  rcases ho.2 with ⟨_, e⟩ | ⟨g1, cap, cur, hv, hb, hg, hnc, hcm, hcs, htk⟩
  · omega
  · refine ⟨g1, cap, hv, hb, ⟨cur, hg, fun i hi => ?_⟩, hnc⟩
    have e : (encs sl P)[i]? = some (sl (P.getD i 0)) := by simp [encs, List.getD_eq_getElem?_getD, List.getElem?_eq_getElem hi]
    rw [← htk, List.getElem?_take] at e
    split at e
    · simpa using e
    · cases e
theorem rowAt_map (IX : List Nat) (i : Nat) (hi : i < IX.length) : rowAt (IX.map frow) i = frow (IX.getD i 0) := by
  unfold rowAt
  rw [List.getD_eq_getElem?_getD, List.getElem?_map, List.getElem?_eq_getElem hi, List.getD_eq_getElem?_getD, List.getElem?_eq_getElem hi]
  rfl
theorem getD_take (L : List Nat) (k i : Nat) (hi : i < k) : (L.take k).getD i 0 = L.getD i 0 := by
  rw [List.getD_eq_getElem?_getD, List.getD_eq_getElem?_getD, List.getElem?_take, if_pos hi]
theorem Ptr.take {w : World} {g : Nat} {P : List Nat} (h : Ptr w g P) (k : Nat) : Ptr w g (P.take k) := by
  obtain ⟨cur, hg, hc⟩ := h
  refine ⟨cur, hg, fun i hi => ?_⟩
  rw [List.length_take] at hi
  rw [getD_take _ _ _ (by omega)]
  exact hc i (by omega)
theorem Wf.frows (IX : List Nat) (h : IX.length = 6) : Wf (IX.map frow) := by
  refine ⟨by simp [h], fun i hi => ?_⟩
  rw [rowAt_map _ _ (by omega)]
  exact ⟨frow_len _, frow_le _⟩
theorem Fi.solved (h : Fi g Bt Bs BL BR S w0 uL uR vL vR LL IX P W) {gR k : Nat} (hp : Ptr W gR P) (hF : Fr gR (P.take k) W W1) (hgR : w0.heap.size ≤ gR) :
    Boxed W1 Bt 52 (.pointer (some ⟨g, 0, none⟩)) ∧ Boxed W1 BL 30 uL ∧ Kd.R Kd.string 9 W1 w0.heap.size (fun k => w0.heap.size ≤ k) vL LL ∧ Below w0.heap.size w0 W1 ∧ (∀ (D : Nat) (o : Obj), W.heap[D]? = some o → o.isCells = false → W1.heap[D]? = some o) := by
  have ne : ∀ (D : Nat) (o : Obj), W.heap[D]? = some o → (∀ cells, o ≠ .cells cells 70 (0, 0)) → (∀ cells, o ≠ .cells cells 5 (0, 0)) → W1.heap[D]? = some o := fun D o ho h1 h2 => by
    refine (hF.block D (Array.getElem?_eq_some_iff.1 ho).1 ?_ ?_).trans ho
    · rintro rfl
      obtain ⟨cur, hg, _⟩ := hp
      rw [hg] at ho
      injection ho with ho
      exact h1 cur ho.symm
    · intro hm
      obtain ⟨i, hi, rfl⟩ := List.getElem_of_mem (List.mem_of_mem_take hm)
      have hr : W.heap[P.getD i 0]? = _ := h.rw i hi
      rw [List.getD_eq_getElem?_getD, List.getElem?_eq_getElem hi] at hr
      have hr : W.heap[P[i]]? = _ := hr
      rw [hr] at ho
      injection ho with ho
      exact h2 _ ho.symm
  refine ⟨ne _ _ h.bt (by intro c e; injection e with _ e; exact absurd e (by decide)) (by intro c e; injection e with _ e; exact absurd e (by decide)), ne _ _ h.bl (by intro c e; injection e with _ e; exact absurd e (by decide)) (by intro c e; injection e with _ e; exact absurd e (by decide)), ?_, ?_, ?_⟩
  · refine Kd.R_mono (Kd.R_move (Kd.R_bound h.oL) (fun k hk => ?_)) (fun _ hk => hk.1)
    obtain ⟨_, _, _, q, hq, cells, hc⟩ := hk
    rcases List.mem_cons.1 hq with rfl | hq
    · rw [hc]
      exact ne _ _ hc (by intro c e; injection e with _ e; exact absurd e (by decide)) (by intro c e; injection e with _ e; exact absurd e (by decide))
    · cases hq
  · refine ⟨hF.os.trans h.bw.os, hF.tape.trans h.bw.tape, hF.output.trans h.bw.output, Nat.le_trans h.bw.size hF.size, fun k hk => (hF.block k (Nat.lt_of_lt_of_le hk h.bw.size) (by omega) (fun hm => ?_)).trans (h.bw.block k hk)⟩
    have := (h.sP k (List.mem_of_mem_take hm)).1
    omega
  · intro D o ho hn
    exact ne D o ho (by rintro c rfl; cases hn) (by rintro c rfl; cases hn)
end
end Go.Proofs.YtdcfonmjbelgbaaDoor
end
section
namespace Go.Proofs.YtdcfonmjbelgbaaDoor
open Go.RowKit
theorem wpIn_range_told {F : Fence} {n : Nat} {P : Program} {α : Type} {g : Operand} {ps : Array Tmp} {assign body : Code} {Q : Exit → Act → World → Prop} {a : Act} {w : World} (hro : F.round = none) (h1 : 1 ≤ n) {gf : Nat} {lb : Array Value} (hg : a.eval g = .func (.func gf) #[] lb) (hFg : F.fn gf) (eg : ∀ args w, (callFunc gf args).run P w = .ok (.enter gf args) w)
    {encs : α → Array Value} (V : α → World → Prop) (S : List α → Prop) (N n₀ : Nat) (hn₀ : n₀ ≤ w.heap.size) (hps : ∀ x, (encs x).size = ps.size)
    (hseq : ∀ (l : Nat) (J : List α → World → Prop) (W : World), Below w.heap.size w W → (∀ s A B, J s A → A.grownBy B none → J s B) →
      (∀ pre x W1, J pre W1 → V x W1 → pre.length < N → YieldAt F (n - 1 - 1) P l (encs x) W1 fun e W' => e = .returned (.bool true) ∧ J (pre ++ [x]) W' ∧ Below n₀ W1 W') → J [] W →
      CallsIn F (n - 1) P gf (#[.func (.yield l) #[] #[]] ++ lb) W fun e W' => (∃ v, e = .returned v) ∧ ∃ xs, S xs ∧ J xs W')
    (I : List α → World → Prop) (hI : OwnFrom w.heap.size I) (h0 : I [] w) (Ax : List α → α → Act → World → Prop) (hAx : ∀ pre x a', OwnFrom w.heap.size (fun (_ : Unit) W => Ax pre x a' W))
    (hassign : ∀ (l : Nat) (pre : List α) (x : α) (W : World) (K : Act → World → Prop), I pre W → V x W → pre.length < N → (∀ a' W', KeepsFrom w.heap.size W W' → Below n₀ W W' → Ax pre x a' W' → K a' W') →
      assign.wpIn (F.inRound l) (n - 1 - 1) P (Exit.then K (fun _ _ _ => False)) { tmps := (ps.zip (encs x)).foldl (fun t (p, v) => t.setIfInBounds p v) a.tmps, defers := [] } W)
    (hbody : ∀ (l : Nat) (pre : List α) (x : α) (a' : Act) (W : World), Ax pre x a' W → body.wpIn (F.inRound l) (n - 1 - 1) P (fun e _ W' => e = .normal ∧ KeepsFrom w.heap.size W W' ∧ Below n₀ W W' ∧ I (pre ++ [x]) W') a' W)
    (hdone : ∀ (D : Nat) (xs : List α) (W : World), w.heap.size ≤ D → S xs → I xs W → W.heap[D]? = some (.deferred (some [])) → Q .normal { a with defers := { target := .collected D, args := #[] } :: a.defers } W) :
    (Code.rangeFunc g ps assign body).wpIn F n P Q a w := by
  refine wpIn_rangeFunc fun fn hfn => ?_
  rw [hro]
  obtain ⟨mk, hmk⟩ : ∃ mk : LoopState → Option Code → Loop, mk = fun st pe => { state := st, pending := pe, fn, tmps := a.tmps, params := ps, assign, body, defers := w.heap.size } := ⟨_, rfl⟩
  obtain ⟨W1, hW1⟩ : ∃ W1, (w.alloc (.deferred (some []))).alloc (.loop (mk .ready none)) = W1 := ⟨_, rfl⟩
  have hL1 : W1.heap[w.heap.size + 1]? = some (.loop (mk .ready none)) := by
    have := World.alloc_heap_new (w.alloc (.deferred (some []))) (.loop (mk .ready none))
    rwa [World.size_alloc, hW1] at this
  have hD1 : W1.heap[w.heap.size]? = some (.deferred (some [])) := by
    rw [← hW1]
    exact (Below.heap_alloc _ _ _ (by simp)).trans (World.alloc_heap_new w _)
  have hI1 : I [] W1 := by rw [← hW1]; exact hI.alloc _ (hI.alloc _ h0)
  have hB1 : Below w.heap.size w W1 := by rw [← hW1]; exact ((Below.refl _ w).alloc (Nat.le_refl _) _).alloc (by simp) _
  refine ⟨w.heap.size + 1, [{ target := .collected w.heap.size, args := #[] }], W1, { target := .fn (.func gf) lb, args := #[.func (.yield (w.heap.size + 1)) #[] #[]] }, W1, gf, #[.func (.yield (w.heap.size + 1)) #[] #[]] ++ lb, W1, ?_, ?_, ?_, ?_, fun _ => h1, ?_⟩
  · rw [← hW1, hmk]
    exact run_enterLoop_outer _ _ _ _ _
  · simp only [resolve, hg]
    simp [go_sem]
  · intro f' hf'
    simp [Target.leads] at hf'
    subst hf'
    exact hFg
  · simp [invoke, go_sem, eg]
  · refine (hseq (w.heap.size + 1) (fun pre W => I pre W ∧ W.heap[w.heap.size + 1]? = some (.loop (mk .ready none)) ∧ W.heap[w.heap.size]? = some (.deferred (some []))) W1 hB1 ?_ ?_ ⟨hI1, hL1, hD1⟩).mono ?_
    · rintro s A B ⟨hi, hl, hd⟩ hgr
      exact ⟨hI s A B none hi hgr (fun r e => by cases e), (hgr.block _ (Array.getElem?_eq_some_iff.1 hl).1 (by simp)).trans hl, (hgr.block _ (Array.getElem?_eq_some_iff.1 hd).1 (by simp)).trans hd⟩
    · rintro pre x W ⟨hi, hl, hd⟩ hv hN
      have hy := run_yield (P := P) (args := encs x) hl (by rw [hmk]; exact hps x)
      rw [hmk] at hy
      refine ⟨fn, _, assign, body, hy, roundIn_of_wpIn hfn (hassign _ pre x W _ hi hv hN ?_)⟩
      clear hy
      intro a' Wa hk hb hax
      have hla := hk.same _ _ (by omega) hl rfl
      have hda := hk.same _ _ (Nat.le_refl _) hd rfl
      have hlt : w.heap.size + 1 < Wa.heap.size := (Array.getElem?_eq_some_iff.1 hla).1
      refine ⟨_, run_beginRound hla (by rw [hmk]), ?_⟩
      have hl2 : (Wa.putObj (w.heap.size + 1) (.loop { mk .ready none with state := .busy })).heap[w.heap.size + 1]? = some (.loop { mk .ready none with state := .busy }) := World.putObj_heap_same hlt
      have hd2 : (Wa.putObj (w.heap.size + 1) (.loop { mk .ready none with state := .busy })).heap[w.heap.size]? = some (.deferred (some [])) := (World.putObj_heap_other (by omega)).trans hda
      have hb2 := belowK_b (w := w) hn₀ Wa (w.heap.size + 1) _ (.loop { mk .ready none with state := .busy }) (by omega) hla rfl rfl
      refine wpIn_mono (hbody _ pre x a' _ ((hAx pre x a').putObj (s := ()) _ hax (by omega) hla rfl)) ?_
      rintro e a3 W3 ⟨rfl, hk3, hb3, hi3⟩
      have hl3 := hk3.same _ _ (by omega) hl2 rfl
      have hd3 := hk3.same _ _ (Nat.le_refl _) hd2 rfl
      have hr := run_endRound (P := P) none hl3
      rw [hmk] at hr hl3
      refine ⟨_, _, hr, rfl, ⟨hI.putObj _ hi3 (by omega) hl3 rfl, ?_, (World.putObj_heap_other (by omega)).trans hd3⟩, ?_⟩
      · rw [hmk]
        exact World.putObj_heap_same (Array.getElem?_eq_some_iff.1 hl3).1
      · exact (hb.trans (hb2.trans hb3)).trans (belowK_b (w := w) hn₀ W3 (w.heap.size + 1) _ _ (by omega) hl3 rfl rfl)
    · rintro e W2 ⟨⟨v, rfl⟩, xs, hS, hi, hl, hd⟩
      have hr := run_endLoop (P := P) hl (by rw [hmk]; simp)
      rw [hmk] at hr
      exact ⟨none, _, hr, hdone _ xs _ (Nat.le_refl _) hS (hI.putObj _ hi (by omega) hl rfl) ((World.putObj_heap_other (by omega)).trans hd)⟩
end Go.Proofs.YtdcfonmjbelgbaaDoor
end
section
namespace Go.Proofs.YtdcfonmjbelgbaaDoor
open Go.RowKit Go.Proofs.YtdcfonmjbelgbaaDoorW.PrintLast
section
variable {P : Program} {ops : Array Oper} {Q : Exit → Act → World → Prop} {md : Region.Mode} {l n : Nat}
theorem rows_round {row : String} {args : Array Value} {w : World} {R : Value → World → Prop} (h : Rows P row args w R) : RowsIn (Fence.wide.inRound l) n P row args w R := by
  intro c cs _
  obtain ⟨v, w', r, s⟩ := h c cs
  exact ⟨v, w', r, stepsIn_wide.2 s⟩
theorem wp_round {o : Oper} (hd : ∀ c, o.op ≠ .defer c) {a : Act} {w : World} {K : Act → World → Prop} (h : o.wp P a w K Q) : o.wpIn (Fence.wide.inRound l) n P a w K Q := by
  refine ⟨fun _ _ => trivial, ?_⟩
  rw [Oper.semAt_eq _ _ _ hd]
  unfold Oper.wp at h
  cases hr : (execOp a.eval o).run P w with
  | ok x w' =>
    rw [hr] at h
    cases x with
    | value v => exact h
    | skip => exact h
    | defer d => exact h
    | enter f args => exact ⟨(fun hh => by cases hh), CallsIn.inRound l (callsIn_wide.2 h)⟩
    | row r args => exact ⟨(fun hh => by cases hh), rows_round h⟩
    | round _ _ _ _ _ => exact h.elim
    | _ => exact h.elim
  | halt x w' =>
    rw [hr] at h
    cases x <;> exact h
theorem wpOp_round (hd : ∀ (i : Nat) (o : Oper) c, ops[i]? = some o → o.op ≠ .defer c) (hL : ¬ LetsOut Q) {i : Nat} {K : Act → World → Prop} {a : Act} {w : World} (h : wpOp P ops Q i K a w) : wpOpIn (Fence.wide.inRound l) n P ops Q i K a w := by
  unfold wpOp at h
  unfold wpOpIn
  cases ho : ops[i]? with
  | none =>
    rw [ho] at h
    exact h
  | some o =>
    rw [ho] at h
    simp only at h ⊢
    by_cases hw : Region.wanted o (yielded ops a.tmps) = true
    · rw [if_pos hw] at h ⊢
      rcases h with h | h
      · exact wp_round (fun c => hd i o c ho) h
      · exact absurd h.2 hL
    · rw [if_neg hw] at h ⊢
      exact ⟨fun _ _ => trivial, h⟩
theorem any_round (hd : ∀ (i : Nat) (o : Oper) c, ops[i]? = some o → o.op ≠ .defer c) (hL : ¬ LetsOut Q) : ∀ (fuel : Nat) (listed : Array Bool) (a : Act) (w : World), wpAny P md ops Q fuel listed a w → wpAnyIn (Fence.wide.inRound l) n P md ops Q fuel listed a w
  | 0, _, _, _, h => h
  | fuel + 1, _, _, _, h => ⟨h.1, fun i hi => wpOpIn_mono (fun a' w' h' => any_round hd hL fuel _ a' w' h') (wpOp_round hd hL (h.2 i hi))⟩
def noDefer (o : Oper) : Bool := match o.op with
  | .defer _ => false
  | _ => true
theorem startIn_ {S : World → Prop} {ds : List Nat} {id m : Nat} {a : Act} {w : World} (hd : ops.toList.all noDefer = true) (hL : ¬ LetsOut Q) (lit : Array Bool) (hm : P.follows .mixedOrders = true) (hn : ops.size = m) (hl : Array.replicate m false = lit) (hS : S w.drew)
    (h : S w.drew → wpAnyLast P .any ops Q S ds m lit a w.drew) : (Code.region id ops true).wpIn (Fence.wide.inRound l) n P Q a w := by
  subst hn
  subst hl
  refine wpIn_region_any hm (any_round (fun i o c hi hc => ?_) hL _ _ _ _ (wpAny_of_last _ _ _ _ (h hS)))
  have h1 := List.all_eq_true.1 hd o (by
    rw [← Array.getElem?_toList] at hi
    exact List.mem_of_getElem? hi)
  unfold noDefer at h1
  rw [hc] at h1
  cases h1
end
end Go.Proofs.YtdcfonmjbelgbaaDoor
end
section
namespace Go.Proofs.YtdcfonmjbelgbaaDoor
open Go.RowKit Q Go.Proofs.YtdcfonmjbelgbaaDoorW.PrintWords Go.Proofs.YtdcfonmjbelgbaaDoorW.PrintLast Go.Proofs.YtdcfonmjbelgbaaDoorW.PrintMore
attribute [local go_sem] Oper.semAt_some
theorem bool_at {w : World} {A : Option Addr} {h : List Bool} (hC : Kd.C Kd.bool w A h.length h) (k : Nat) (hk : k < h.length) : ∃ ad, A = some ad ∧ w.cell? (ad.add k) = some (.bool (h.getD k false)) := by
  obtain ⟨ad, e, hc⟩ := Kd.at_bool hC (k : Int) (by omega) (by omega)
  exact ⟨ad, e, hc⟩
theorem skip_none {F : Fence} {p : Prop} (h : p) : (∀ f : FuncId, (none : Option FuncId) = some f → F.fn f) ∧ p := ⟨(fun _ hf => by cases hf), h⟩
set_option maxRecDepth 100000 in
set_option maxHeartbeats 1000000 in
theorem there_in (n : Nat) (hn : 1 ≤ n) (l Bn : Nat) (A : Option Addr) (c : Nat) (h : List Bool) (w0 : World) (hC : Kd.C Kd.bool w0 A h.length h) (hc : h.length ≤ c) (J : List Nat → World → Prop)
    (hY : ∀ pre x W1, J pre W1 → x < h.length → pre.length < h.length → YieldAt Fence.wide (n - 1) Tryd.prog l #[.int .i64 ((x : Nat) : Int)] W1 fun e W' => e = .returned (.bool true) ∧ J (pre ++ [x]) W' ∧ Below w0.heap.size W1 W')
    (W : World) (hb0 : Below w0.heap.size w0 W) (hBn : W.cell? ⟨Bn, 0, none⟩ = some (.slice A h.length c)) (h0 : J [] W) :
    CallsIn Fence.wide n Tryd.prog 64 #[.func (.yield l) #[] #[], .pointer (some ⟨Bn, 0, none⟩)] W fun e W' => (∃ v, e = .returned v) ∧ ∃ ys : List Nat, ys = idx h ∧ J ys W' := by
  have HJ := Aside0.mk h0
  have HB := Aside0.mk hb0
  have HY := Aside0.mk hY
  have HC := Aside0.mk hC
  have hmx : h.length ≤ 9223372036854775807 := Kd.C_max hC
  clear h0 hb0 hY hC
  refine callsIn_of_wp Tryd.func64 rfl trivial ?_ rfl
  simp only [Tryd.ntmps64, List.size_toArray, List.length_cons, List.length_nil, Nat.reduceAdd, Nat.reduceSub, Array.replicate_succ, Array.replicate_zero, List.push_toArray, List.append_toArray, List.nil_append, List.cons_append]
  gi_wp2
  clear hBn
  gi_loopw [7] (fun i wr => ∃ (k : Nat), k ≤ h.length ∧ i = .int .i64 k ∧ Aside0 (J (idxK h k) wr) ∧ Aside0 (Below w0.heap.size w0 wr)) (fun i _ => h.length - (intOf i).toNat)
  case atStart => exact ⟨0, Nat.zero_le _, rfl, HJ, HB⟩
  case round =>
    clear HJ HB
    obtain ⟨k, hk, rfl, HJ, HB⟩ := hrel
    by_cases hlt : k < h.length
    · obtain ⟨ad, hA, hcell⟩ := bool_at HC.out k hlt
      replace hcell := (HB.out.cell (World.block_lt_of_cell? _ _ hcell)).trans hcell
      have HS := Lib.hid (idxK_succ h k)
      have hpl : Hid ((idxK h k).length < h.length) := Lib.hid (by have := idxK_len h k; omega)
      have hHL := Lib.hid hlt
      subst hA
      cases hq : h.getD k false with
      | false =>
        rw [hq] at hcell HS
        have HS2 := Lib.hid (show idxK h (k + 1) = idxK h k by rw [HS.out]; simp)
        clear HS hq
        gi_wp2_with (with_reducible refine skip_none ?_)
        go_roundw
        case rel => exact ⟨k + 1, hHL.out, by go_num, by rw [HS2.out]; exact HJ, HB⟩
        case measure => have := hHL.out; simp [intOf]; omega
      | true =>
        rw [hq] at hcell HS
        have HS2 := Lib.hid (show idxK h (k + 1) = idxK h k ++ [k] by rw [HS.out]; simp)
        clear HS hq
        obtain ⟨fn, tmps, assign, body, hy, hRd⟩ := HY.out (idxK h k) k wr HJ.out hlt hpl.out
        gi_wp2
        refine hRd.mono ?_
        rintro e3 W3 ⟨rfl, hJ3, hk3⟩
        gi_wp2
        go_roundw
        case rel => exact ⟨k + 1, hHL.out, by go_num, by rw [HS2.out]; exact ⟨hJ3⟩, ⟨HB.out.trans hk3⟩⟩
        case measure => have := hHL.out; simp [intOf]; omega
    · obtain rfl : k = h.length := by omega
      gi_wp2
      go_end0
      exact ⟨⟨_, rfl⟩, _, rfl, HJ.out⟩
end Go.Proofs.YtdcfonmjbelgbaaDoor
end
section
namespace Go.Proofs.YtdcfonmjbelgbaaDoor
open Go.RowKit Q Go.Proofs.YtdcfonmjbelgbaaDoorW.PrintWords Go.Proofs.YtdcfonmjbelgbaaDoorW.PrintLast Go.Proofs.YtdcfonmjbelgbaaDoorW.PrintMore
attribute [local go_sem] Oper.semAt_some
theorem there_calls (A : Option Addr) (m c : Nat) (w : World) (n : Nat) : CallsIn Fence.wide n Tryd.prog 49 #[.slice A m c] w fun e w' => e = .returned (.func (.func 64) #[] #[.pointer (some ⟨w.heap.size, 0, none⟩)]) ∧ w' = w.alloc (.cells #[.slice A m c] 34) := by
  refine callsIn_of_wp Tryd.func49 rfl trivial ?_ rfl
  simp only [Tryd.ntmps49, List.size_toArray, List.length_cons, List.length_nil, Nat.reduceAdd, Nat.reduceSub, Array.replicate_succ, Array.replicate_zero, List.push_toArray, List.append_toArray, List.nil_append, List.cons_append]
  gi_wp2
  go_ret
  exact ⟨rfl, rfl⟩
theorem Fi.start {g : Nat} {S : Value} {w : World} {x : Value} : Fi g w.heap.size (w.heap.size + 1) (w.heap.size + 1 + 1) (w.heap.size + 1 + 1 + 1) S w (.slice none 0 0) (.slice none 0 0) (.slice none 0 0) (.slice none 0 0) [] [] [] (((((w.alloc (.cells #[.pointer (some ⟨g, 0, none⟩)] 52)).alloc (.cells #[S] 30)).alloc (.cells #[.slice none 0 0] 30)).alloc (.cells #[.slice none 0 0] 107)).alloc (.cells #[x] 34)) := by
  have e1 : (w.alloc (.cells #[.pointer (some ⟨g, 0, none⟩)] 52)).heap.size = w.heap.size + 1 := by simp
  have e2 : ((w.alloc (.cells #[.pointer (some ⟨g, 0, none⟩)] 52)).alloc (.cells #[S] 30)).heap.size = w.heap.size + 1 + 1 := by simp
  have e3 : (((w.alloc (.cells #[.pointer (some ⟨g, 0, none⟩)] 52)).alloc (.cells #[S] 30)).alloc (.cells #[.slice none 0 0] 30)).heap.size = w.heap.size + 1 + 1 + 1 := by simp
  have b1 := Boxed.new w 52 (.pointer (some ⟨g, 0, none⟩))
  have b2 := Boxed.new (w.alloc (.cells #[.pointer (some ⟨g, 0, none⟩)] 52)) 30 S
  have b3 := Boxed.new ((w.alloc (.cells #[.pointer (some ⟨g, 0, none⟩)] 52)).alloc (.cells #[S] 30)) 30 (.slice none 0 0)
  have b4 := Boxed.new (((w.alloc (.cells #[.pointer (some ⟨g, 0, none⟩)] 52)).alloc (.cells #[S] 30)).alloc (.cells #[.slice none 0 0] 30)) 107 (.slice none 0 0)
  rw [e1] at b2
  rw [e2] at b3
  rw [e3] at b4
  refine ⟨(((b1.alloc _).alloc _).alloc _).alloc _, ((b2.alloc _).alloc _).alloc _, (b3.alloc _).alloc _, b4.alloc _, Kd.R_nil _ _ _ _ _, Kd.R_nil _ _ _ _ _, rfl, fun i hi => absurd hi (Nat.not_lt_zero i), by simp, fun x hx => absurd hx (by simp), below_alloc (below_alloc (below_alloc (below_alloc (below_alloc (Below.refl _ w) _) _) _) _) _, by omega, by omega, by omega⟩
theorem Fi.br1 {g Bt Bs BL BR : Nat} {S : Value} {w0 W : World} {uL uR vL vR : Value} {LL : List ByteArray} {IX P : List Nat} (h : Fi g Bt Bs BL BR S w0 uL uR vL vR LL IX P W) (v : Value) : Boxed (W.setCell ⟨BL, 0, none⟩ v) BR 107 uR :=
  box_step_typed h.br (grown_set W BL 0 v) 30 (fun k e => by injection e with e; subst e; exact ⟨_, h.bl⟩) (by decide)
theorem R_calm2 {α : Type} {d : Kd α} {e base : Nat} {ok : Nat → Prop} {X Y : World} {v : Value} {xs : List α} {row : Option Nat} (h : d.R e X base ok v xs) (hg : X.grownBy Y row) (hr : ∀ r, row = some r → ∃ o : Obj, X.heap[r]? = some o ∧ o.isCells = false) : d.R e Y base ok v xs :=
  Kd.R_mono (Kd.R_move (Kd.R_bound h) (fun k hk => hg.block k hk.2.2.1 (fun e' => by
    obtain ⟨_, _, _, q, _, cells, hc⟩ := hk
    obtain ⟨o, ho, hn⟩ := hr k e'.symm
    rw [hc] at ho
    cases ho
    cases hn))) (fun _ hk => hk.1)
theorem evenB_take {l : List ByteArray} (h : evenB l = true) (k : Nat) (hk : 0 < k) : evenB (l.take k) = true := by
  unfold evenB
  rw [List.all_eq_true]
  intro s hs
  rw [take_wid l k hk]
  have := evenB_size h (List.mem_of_mem_take hs)
  simpa using this
theorem strAt_map (l : List ByteArray) (IX : List Nat) (i : Nat) (hi : i < IX.length) : strAt (IX.map (strAt l)) i = strAt l (IX.getD i 0) := by
  unfold strAt
  rw [List.getD_eq_getElem?_getD, List.getElem?_map, List.getElem?_eq_getElem hi, List.getD_eq_getElem?_getD (l := IX), List.getElem?_eq_getElem hi]
  rfl
theorem str_now {w W : World} {ad : Addr} {l : List ByteArray} {i : Nat} {s : ByteArray} (hC : Kd.C Kd.string w (some ad) l.length l) (b : Below w.heap.size w W) (hs : i < l.length ∧ strAt l i = s) : W.cell? (ad.add i) = some (.string s) := by
  obtain ⟨ad2, e, hc⟩ := strs_at hC i hs.1
  cases e
  rw [hs.2] at hc
  exact (b.cell (World.block_lt_of_cell? _ _ hc)).trans hc
theorem below_between {n : Nat} {w W W1 : World} (b1 : Below n w W) (b2 : Below n w W1) (hs : W.heap.size ≤ W1.heap.size) : Below n W W1 :=
  ⟨b2.os.trans b1.os.symm, b2.tape.trans b1.tape.symm, b2.output.trans b1.output.symm, hs, fun k hk => (b2.block k hk).trans (b1.block k hk).symm⟩
theorem keeps_typed {B : Nat} {W W1 : World} {row : Option Nat} (hg : W.grownBy W1 row) (t : TypeId) (hrow : ∀ k, row = some k → ∃ cells, W.heap[k]? = some (.cells cells t (0, 0))) : KeepsFrom B W W1 :=
  ⟨hg.size, fun k o _ hk ho => (hg.block k (Array.getElem?_eq_some_iff.1 hk).1 (fun e => by
    obtain ⟨cells, hc⟩ := hrow k e.symm
    rw [hc] at hk
    cases hk
    cases ho)).trans hk⟩
theorem keeps_below {B : Nat} {W W1 : World} (b : Below W.heap.size W W1) : KeepsFrom B W W1 := keeps_typed (grown_below b none) 0 (fun k e => by cases e)
set_option maxRecDepth 100000 in
set_option maxHeartbeats 4000000 in
theorem fill_calls (g : Nat) (A : Option Addr) (c : Nat) (l : List ByteArray) (D : Option Addr) (d : Nat) (h : List Bool) (w : World) (hI : IsTab w g) (hC : Kd.C Kd.string w A l.length l) (hc : l.length ≤ c) (hz : ∀ s ∈ l, s.size ≤ 140737488355328) (hD : Kd.C Kd.bool w D h.length h) (hd : h.length ≤ d) :
    Calls Tryd.prog 35 #[.pointer (some ⟨g, 0, none⟩), .slice A l.length c, .slice D h.length d] w (Told w.heap.size (fillR l h) w) := by
  refine (callsIn_wide (n := 5)).1 ?_
  have HI := Aside0.mk hI
  have HC := Aside0.mk hC
  have HZ := Aside0.mk hz
  have HDD := Aside0.mk hD
  have HL := Lib.hid hc
  have HDL := Lib.hid hd
  have hmx : l.length ≤ 9223372036854775807 := Kd.C_max hC
  have hmd : h.length ≤ 9223372036854775807 := Kd.C_max hD
  clear hI hC hz hc hD hd
  refine callsIn_of_wp_marks Tryd.func35 rfl trivial ?_ rfl
  simp only [Tryd.ntmps35, List.size_toArray, List.length_cons, List.length_nil, Nat.reduceAdd, Nat.reduceSub, Array.replicate_succ, Array.replicate_zero, List.push_toArray, List.append_toArray, List.nil_append, List.cons_append]
  have hF : Fence.wide.fn 49 := trivial
  by_cases h9 : l.length = 9
  · have h9n : ((l.length : Int) != 9) = false := by rw [h9]; rfl
    by_cases hh9 : h.length = 9
    · have hh9n : ((h.length : Int) != 9) = false := by rw [hh9]; rfl
      have H9 := Lib.hid h9
      have HH9 := Lib.hid hh9
      clear h9 hh9
      gi_wp2_with (first | (gi_at_call 49; refine (there_calls _ _ _ _ _).mono ?_; rintro e w' ⟨rfl, rfl⟩))
      have G := Fi.start (g := g) (S := .slice A l.length c) (w := w) (x := .slice D h.length d)
      have bH := Boxed.new ((((w.alloc (.cells #[.pointer (some ⟨g, 0, none⟩)] 52)).alloc (.cells #[.slice A l.length c] 30)).alloc (.cells #[.slice none 0 0] 30)).alloc (.cells #[.slice none 0 0] 107)) 34 (.slice D h.length d)
      simp only [World.size_alloc] at bH
      generalize ((((w.alloc (.cells #[.pointer (some ⟨g, 0, none⟩)] 52)).alloc (.cells #[.slice A l.length c] 30)).alloc (.cells #[.slice none 0 0] 30)).alloc (.cells #[.slice none 0 0] 107)).alloc (.cells #[.slice D h.length d] 34) = W0 at G bH ⊢
      have hn0 : w.heap.size ≤ W0.heap.size := G.bw.size
      generalize w.heap.size + 1 + 1 + 1 + 1 = BH at bH ⊢
      generalize w.heap.size + 1 + 1 + 1 = BR at G ⊢
      generalize w.heap.size + 1 + 1 = BL at G ⊢
      generalize w.heap.size + 1 = Bs at G ⊢
      refine wpIn_range_told rfl (by decide) (gf := 64) (lb := #[.pointer (some ⟨BH, 0, none⟩)]) rfl trivial (enters_of Tryd.func64 (by kernel_rfl) rfl) (encs := fun x : Nat => #[.int .i64 ((x : Nat) : Int)]) (fun x _ => x < h.length) (fun ys => ys = idx h) h.length w.heap.size hn0 (fun _ => rfl) ?seq (fun pre W => ∃ vL vR P, Fi g w.heap.size Bs BL BR (.slice A l.length c) w vL vR vL vR (pre.map (strAt l)) pre P W) ?own ⟨_, _, _, G⟩ (fun pre x a' W => x < h.length ∧ pre.length < h.length ∧ a' = { tmps := #[.pointer (some ⟨g, 0, none⟩), .slice A l.length c, .slice D h.length d, .pointer (some ⟨w.heap.size, 0, none⟩), .pointer (some ⟨Bs, 0, none⟩), undef, .slice none 0 0, .int .i64 0, .pointer (some ⟨BL, 0, none⟩), .pointer (some ⟨BR, 0, none⟩), .int .i64 ((x : Nat) : Int), undef, undef, undef, .pointer (some ⟨g, 0, none⟩), .bool false, .bool false, .slice A l.length c, .int .i64 l.length, .bool false, .bool false, .bool false, .slice D h.length d, .int .i64 h.length, .bool false, .bool false, .slice D h.length d, .func (.func 64) #[] #[.pointer (some ⟨BH, 0, none⟩)], .int .i64 ((x : Nat) : Int), undef, undef, undef, undef, undef, undef, undef, undef, undef, undef, undef, undef, undef, undef, undef, undef, undef, undef, undef, undef, undef, undef, undef, undef, undef, undef, undef, undef, undef, undef, undef, undef, undef, undef, undef, undef, undef, undef, undef, undef, undef, undef, undef, undef, undef, undef], defers := [] } ∧ ∃ vL vR P, Fi g w.heap.size Bs BL BR (.slice A l.length c) w vL vR vL vR (pre.map (strAt l)) pre P W) ?ax ?assign ?body ?done
      case seq =>
        intro lq J W hW hJ hY h0
        exact there_in _ (by decide) lq BH D d h w HDD.out HDL.out J (fun pre x W1 h1 h2 h3 => hY pre x W1 h1 h2 h3) W (below2 G.bw hn0 hW) ((hW.cell (p := ⟨BH, 0, none⟩) bH.lt).trans bH.cell) h0
      case own =>
        rintro pre X Y row ⟨vL, vR, P, hs⟩ hg hr
        exact ⟨vL, vR, P, hs.calm hg (fun r e => ⟨Nat.le_trans hn0 (hr r e).1, (hr r e).2⟩)⟩
      case ax =>
        rintro pre x a' _ X Y row ⟨h1, h2, h3, vL, vR, P, hs⟩ hg hr
        exact ⟨h1, h2, h3, vL, vR, P, hs.calm hg (fun r e => ⟨Nat.le_trans hn0 (hr r e).1, (hr r e).2⟩)⟩
      case assign =>
        rintro lq pre x W K ⟨vL, vR, P, hs⟩ hv hN hK
        gi_wp2
        exact hK _ _ ⟨Nat.le_refl _, fun _ _ _ hk _ => hk⟩ (Below.refl _ _) ⟨hv, hN, rfl, vL, vR, P, hs⟩
      case body =>
        rintro lq pre i a' W ⟨hi, hpl, rfl, vL, vR, P, HG⟩
        have hi9 : i < l.length := by have := H9.out; have := HH9.out; omega
        have hi8 : i ≤ 8 := by have := HH9.out; omega
        have hpl9 : pre.length < 9 := by have := HH9.out; omega
        obtain ⟨ad, hA, _⟩ := strs_at HC.out i hi9
        subst hA
        obtain ⟨s, hs⟩ : ∃ s, i < l.length ∧ strAt l i = s := ⟨_, hi9, rfl⟩
        have hs := Lib.hid hs
        have HG0 := HG.below (Below.drew (Below.refl _ _))
        have hii : (i : Int) < (l.length : Int) := by omega
        gi_wp2
        refine startIn_ (m := 15) (by kernel_rfl) (by rintro ⟨_, _, h1, _⟩; cases h1) (S := fun w' => w'.cell? ⟨BL, 0, none⟩ = some vL ∧ w'.cell? ⟨Bs, 0, none⟩ = some (.slice (some ad) l.length c) ∧ w'.cell? (ad.add i) = some (.string s) ∧ w'.cell? ⟨BR, 0, none⟩ = some vR ∧ w'.cell? ⟨w.heap.size, 0, none⟩ = some (.pointer (some ⟨g, 0, none⟩))) (ds := [13, 14]) #[false, false, false, false, false, false, false, false, false, false, false, false, false, false, false] (by kernel_rfl) rfl rfl ⟨HG0.bl.cell, HG0.bs.cell, (str_now HC.out HG0.bw hs.out), HG0.br.cell, HG0.bt.cell⟩ (fun hHeld => ?_)
        refine pure_ (i := 2) (N := some 31) (v := ?_) (a' := ?_) #[false, false, true, false, false, false, false, false, false, false, false, false, false, false, false] rfl rfl (by kernel_rfl) (fun _ _ _ h => h) (Or.inl ⟨by rfl, ?_⟩) ?_ ?_
        rotate_left
        · intro w'
          go_simp
          with_reducible rfl
        rotate_left
        · simp only [Act.put, List.setIfInBounds_toArray, List.set_cons_zero, List.set_cons_succ]
          rfl
        refine pure_ (i := 9) (N := some 38) (v := ?_) (a' := ?_) #[false, false, true, false, false, false, false, false, false, true, false, false, false, false, false] rfl rfl (by kernel_rfl) (fun _ _ _ h => h) (Or.inl ⟨by rfl, ?_⟩) ?_ ?_
        rotate_left
        · intro w'
          go_simp
          with_reducible rfl
        rotate_left
        · simp only [Act.put, List.setIfInBounds_toArray, List.set_cons_zero, List.set_cons_succ]
          rfl
        refine take_ (i := 0) (N := some 29) (v := ?_) (a' := ?_) #[true, false, true, false, false, false, false, false, false, true, false, false, false, false, false] rfl rfl (by kernel_rfl) (fun _ _ _ h => h) (Or.inl ⟨by rfl, ?_⟩) hHeld ?_ ?_
        rotate_left
        · rintro w' ⟨s0, s1, s2, s3, s4⟩
          go_simp
          with_reducible rfl
        rotate_left
        · simp only [Act.put, List.setIfInBounds_toArray, List.set_cons_zero, List.set_cons_succ]
          rfl
        refine take_ (i := 1) (N := some 30) (v := ?_) (a' := ?_) #[true, true, true, false, false, false, false, false, false, true, false, false, false, false, false] rfl rfl (by kernel_rfl) (fun _ _ _ h => h) (Or.inl ⟨by rfl, ?_⟩) hHeld ?_ ?_
        rotate_left
        · rintro w' ⟨s0, s1, s2, s3, s4⟩
          go_simp
          with_reducible rfl
        rotate_left
        · simp only [Act.put, List.setIfInBounds_toArray, List.set_cons_zero, List.set_cons_succ]
          rfl
        refine pure_ (i := 3) (N := some 32) (v := ?_) (a' := ?_) #[true, true, true, true, false, false, false, false, false, true, false, false, false, false, false] rfl rfl (by kernel_rfl) (fun _ _ _ h => h) (Or.inl ⟨by rfl, ?_⟩) ?_ ?_
        rotate_left
        · intro w'
          go_simp
          with_reducible rfl
        rotate_left
        · simp only [Act.put, List.setIfInBounds_toArray, List.set_cons_zero, List.set_cons_succ]
          rfl
        refine take_ (i := 4) (N := some 33) (v := ?_) (a' := ?_) #[true, true, true, true, true, false, false, false, false, true, false, false, false, false, false] rfl rfl (by kernel_rfl) (fun _ _ _ h => h) (Or.inl ⟨by rfl, ?_⟩) hHeld ?_ ?_
        rotate_left
        · rintro w' ⟨s0, s1, s2, s3, s4⟩
          go_simp
          with_reducible rfl
        rotate_left
        · simp only [Act.put, List.setIfInBounds_toArray, List.set_cons_zero, List.set_cons_succ]
          rfl
        refine take_ (i := 7) (N := some 36) (v := ?_) (a' := ?_) #[true, true, true, true, true, false, false, true, false, true, false, false, false, false, false] rfl rfl (by kernel_rfl) (fun _ _ _ h => h) (Or.inl ⟨by rfl, ?_⟩) hHeld ?_ ?_
        rotate_left
        · rintro w' ⟨s0, s1, s2, s3, s4⟩
          go_simp
          with_reducible rfl
        rotate_left
        · simp only [Act.put, List.setIfInBounds_toArray, List.set_cons_zero, List.set_cons_succ]
          rfl
        refine take_ (i := 8) (N := some 37) (v := ?_) (a' := ?_) #[true, true, true, true, true, false, false, true, true, true, false, false, false, false, false] rfl rfl (by kernel_rfl) (fun _ _ _ h => h) (Or.inl ⟨by rfl, ?_⟩) hHeld ?_ ?_
        rotate_left
        · rintro w' ⟨s0, s1, s2, s3, s4⟩
          go_simp
          with_reducible rfl
        rotate_left
        · simp only [Act.put, List.setIfInBounds_toArray, List.set_cons_zero, List.set_cons_succ]
          rfl
        refine one_ (i := 5) (N := some 34) #[true, true, true, true, true, true, false, true, true, true, false, false, false, false, false] rfl rfl (by kernel_rfl) (by decide) (fun K hK => ?_)
        refine value_ (w1 := ?_) (v := ?_) (by rfl) rfl ?_ ?_
        rotate_left 2
        · go_simp
          constructor
          · rfl
          · rfl
        have HG1 := HG0.below (below_alloc (Below.refl _ _) (.cells #[.string s] 9))
        refine hK.out _ _ ⟨HG1.bl.cell, HG1.bs.cell, (str_now HC.out HG1.bw hs.out), HG1.br.cell, HG1.bt.cell⟩ (fun hHeld => ?_)
        clear hK K
        refine norm_ (a' := ?_) ?_ ?_
        rotate_left
        · show Act.put _ (some 34) _ = _
          simp only [Act.put, List.setIfInBounds_toArray, List.set_cons_zero, List.set_cons_succ]
          rfl
        refine one_ (i := 6) (N := some 35) #[true, true, true, true, true, true, true, true, true, true, false, false, false, false, false] rfl rfl (by kernel_rfl) (by decide) (fun K hK => ?_)
        refine Kd.R_append_step Kd.string (w0 := w) w.heap.size (by rfl) (.tmp 29) (.tmp 34) 30 9 (.string ⟨#[]⟩) 16 rfl Tryd.underlying30 infoStr rfl (by decide) (by decide) vL (pre.map (strAt l)) s [.string s] (fun j => w.heap.size ≤ j) (fun _ => False) rfl rfl rfl (fun _ hk => hk.elim) (fun j hj => Nat.le_trans HG0.bw.size hj) HG0.oL HG0.bw HG0.bw.size (by rw [List.length_map]; omega) ?_
        intro v1 w3 hR hB hg _
        obtain ⟨A1, n1, c1, rfl⟩ : ∃ A1 n1 c1, v1 = .slice A1 n1 c1 := by obtain ⟨A1, c1, e⟩ := Kd.R_slice hR; exact ⟨A1, _, c1, e⟩
        have HG2 := HG0.left hR hg
        refine hK.out _ _ ⟨HG2.bl.cell, HG2.bs.cell, (str_now HC.out HG2.bw hs.out), HG2.br.cell, HG2.bt.cell⟩ (fun hHeld => ?_)
        clear hK K
        refine norm_ (a' := ?_) ?_ ?_
        rotate_left
        · show Act.put _ (some 35) _ = _
          simp only [Act.put, List.setIfInBounds_toArray, List.set_cons_zero, List.set_cons_succ]
          rfl
        refine one_ (i := 10) (N := some 39) #[true, true, true, true, true, true, true, true, true, true, true, false, false, false, false] rfl rfl (by kernel_rfl) (by decide) (fun K hK => ?_)
        refine goes_ Tryd.func29 (by kernel_rfl) rfl #[.pointer (some ⟨g, 0, none⟩), .int .i64 (i : Int)] (by rfl) rfl rfl (by simp only [List.map_toArray, List.map_cons, List.map_nil]; rfl) ?_
        with_reducible refine (row_told g i hi8 _ (HI.out.below HG2.bw)).mono ?_
        rintro e w4 ⟨b, rfl, hF, hbg, hb⟩
        refine ⟨_, rfl, ?_⟩
        have HG4 := HG2.below hb
        refine hK.out _ _ ⟨HG4.bl.cell, HG4.bs.cell, (str_now HC.out HG4.bw hs.out), HG4.br.cell, HG4.bt.cell⟩ (fun hHeld => ?_)
        clear hK K
        refine norm_ (a' := ?_) ?_ ?_
        rotate_left
        · show Act.put _ (some 39) _ = _
          simp only [Act.put, List.setIfInBounds_toArray, List.set_cons_zero, List.set_cons_succ]
          rfl
        refine one_ (i := 11) (N := some 40) #[true, true, true, true, true, true, true, true, true, true, true, true, false, false, false] rfl rfl (by kernel_rfl) (by decide) (fun K hK => ?_)
        refine value_ (w1 := ?_) (v := ?_) (by rfl) rfl ?_ ?_
        rotate_left 2
        · go_simp
          constructor
          · rfl
          · rfl
        have HG5 := HG4.below (below_alloc (Below.refl _ _) (.cells #[.slice (some ⟨b, 0, none⟩) 6 6] 70))
        refine hK.out _ _ ⟨HG5.bl.cell, HG5.bs.cell, (str_now HC.out HG5.bw hs.out), HG5.br.cell, HG5.bt.cell⟩ (fun hHeld => ?_)
        clear hK K
        refine norm_ (a' := ?_) ?_ ?_
        rotate_left
        · show Act.put _ (some 40) _ = _
          simp only [Act.put, List.setIfInBounds_toArray, List.set_cons_zero, List.set_cons_succ]
          rfl
        refine one_ (i := 12) (N := some 41) #[true, true, true, true, true, true, true, true, true, true, true, true, true, false, false] rfl rfl (by kernel_rfl) (by decide) (fun K hK => ?_)
        refine Kd.R_append_step kPtr (w0 := w) w.heap.size (by rfl) (.tmp 36) (.tmp 40) 107 70 (.slice none 0 0) 24 rfl Tryd.underlying107 infoPtr rfl (by decide) (by decide) vR P b [.slice (some ⟨b, 0, none⟩) 6 6] (fun j => w.heap.size ≤ j) (fun _ => False) rfl rfl rfl (fun _ hk => hk.elim) (fun j hj => Nat.le_trans HG4.bw.size hj) HG4.oR HG4.bw HG4.bw.size (by rw [HG0.lP]; omega) ?_
        intro v2 w5 hR2 hB2 hg2 _
        obtain ⟨A2, n2, c2, rfl⟩ : ∃ A2 n2 c2, v2 = .slice A2 n2 c2 := by obtain ⟨A2, c2, e⟩ := Kd.R_slice hR2; exact ⟨A2, _, c2, e⟩
        have HG6 := HG4.row hR2 hg2 hF (fun x hx => Nat.lt_of_lt_of_le (HG2.sP x hx).2 hbg) (Nat.le_trans HG2.bw.size hbg)
        have c13 := HG6.bl.cell
        have f13 := HG6.bl.frozen
        have c14 := (HG6.br1 (.slice A1 n1 c1)).cell
        have f14 := (HG6.br1 (.slice A1 n1 c1)).frozen
        refine hK.out _ _ ⟨HG6.bl.cell, HG6.bs.cell, (str_now HC.out HG6.bw hs.out), HG6.br.cell, HG6.bt.cell⟩ (fun hHeld => ?_)
        clear hK K
        refine norm_ (a' := ?_) ?_ ?_
        rotate_left
        · show Act.put _ (some 41) _ = _
          simp only [Act.put, List.setIfInBounds_toArray, List.set_cons_zero, List.set_cons_succ]
          rfl
        refine last_ (i := 13) (N := none) #[true, true, true, true, true, true, true, true, true, true, true, true, true, true, false] rfl rfl (by kernel_rfl) (by decide) (fun K hK => ?_)
        refine skip_ (w1 := ?_) (by rfl) rfl ?_ ?_
        rotate_left
        · go_simp
          rfl
        refine hK.out _ _ ?_
        clear hK K
        refine last_ (i := 14) (N := none) #[true, true, true, true, true, true, true, true, true, true, true, true, true, true, true] rfl rfl (by kernel_rfl) (by decide) (fun K hK => ?_)
        refine skip_ (w1 := ?_) (by rfl) rfl ?_ ?_
        rotate_left
        · go_simp
          rfl
        refine hK.out _ _ ?_
        clear hK K
        refine done_ (by kernel_rfl) ?_
        have hL2 := fun k e => Kd.R_typed HG0.oL k e
        have hR3 := fun k e => Kd.R_typed HG4.oR k e
        have hfin := HG6.put (.slice A1 n1 c1) (.slice A2 n2 c2)
        have b1 : KeepsFrom W0.heap.size W W.drew := keeps_below (Below.drew (Below.refl _ _))
        have b2 : KeepsFrom W0.heap.size W.drew w3 := keeps_typed hg _ hL2
        have b3 : KeepsFrom W0.heap.size w3 w4 := keeps_below hb
        have b4 : KeepsFrom W0.heap.size w4 w5 := keeps_typed hg2 _ hR3
        have b5 := (KeepsOthers.setCell w5 ⟨BL, 0, none⟩ (.slice A1 n1 c1)).from W0.heap.size
        have b6 := (KeepsOthers.setCell (w5.setCell ⟨BL, 0, none⟩ (.slice A1 n1 c1)) ⟨BR, 0, none⟩ (.slice A2 n2 c2)).from W0.heap.size
        have bk := ((((b1.trans b2).trans b3).trans b4).trans b5).trans b6
        refine ⟨rfl, bk, below_between HG.bw hfin.bw bk.size, .slice A1 n1 c1, .slice A2 n2 c2, P ++ [b], ?_⟩
        rw [List.map_append, List.map_singleton, hs.out.2]
        exact hfin
      case done =>
        rintro D0 ys W hDD hS ⟨vL, vR, P, HG⟩ hK
        subst hS
        obtain ⟨A1, c1, rfl⟩ := Kd.R_slice HG.oL
        have hlen : (List.map (strAt l) (idx h)).length = (idx h).length := List.length_map _
        have hRL := Kd.R_reads' HG.oL
        have HLC : Aside0 (Kd.C Kd.string W A1 (leftL l h).length (leftL l h)) := ⟨hRL.2.2⟩
        have HLL : Hid ((leftL l h).length ≤ c1) := Lib.hid hRL.2.1
        have HE := Aside0.mk (even_calls A1 c1 (leftL l h) W HLC.out HLL.out)
        have hbl : W.cell? ⟨BL, 0, none⟩ = some (.slice A1 (leftL l h).length c1) := HG.bl.cell
        have HG := Aside0.mk HG
        have HKD := Lib.hid hK
        clear hRL hK hlen
        cases he : evenB (leftL l h) with
        | false =>
          rw [he] at HE
          have HR := Lib.hid (show fillR l h = ([], 1) by unfold fillR; rw [if_pos ⟨H9.out, HH9.out⟩, if_neg (by rw [he]; simp)])
          have hF2 : Fence.wide.fn 27 := trivial
          gi_wp2_with (gi_at_call 27; refine (callsIn_wide.2 HE.out).mono ?_; rintro e W2 ⟨rfl, hb⟩)
          refine ⟨by simp, .inl ⟨_, _, rfl, run_takeDeferred ((hb.block _ (Array.getElem?_eq_some_iff.1 HKD.out).1).trans HKD.out), ?_⟩⟩
          refine ⟨_, results_tmp2 rfl _ _ _, none, 0, by rw [HR.out]; rfl, by rw [HR.out]; exact Kd.R_nil _ _ _ _ _, ?_⟩
          exact (below2 HG.out.bw HG.out.bw.size hb).trans (belowK_b (w := w) (Nat.le_refl _) W2 D0 _ _ (Nat.le_trans hn0 hDD) ((hb.block _ (Array.getElem?_eq_some_iff.1 HKD.out).1).trans HKD.out) rfl rfl)
        | true =>
          rw [he] at HE
          have hF2 : Fence.wide.fn 27 := trivial
          have hlen : (leftL l h).length = (idx h).length := List.length_map _
          by_cases h6 : (idx h).length < 6
          · have HR := Lib.hid (show fillR l h = ([], 2) by unfold fillR; rw [if_pos ⟨H9.out, HH9.out⟩, if_pos he, if_pos h6])
            have h6i : ((leftL l h).length : Int) < 6 := by omega
            replace h6 := Lib.hid h6
            replace hlen := Lib.hid hlen
            replace he := Lib.hid he
            gi_wp2_with (gi_at_call 27; refine (callsIn_wide.2 HE.out).mono ?_; rintro e W2 ⟨rfl, hb⟩; have hbl2 : W2.cell? ⟨BL, 0, none⟩ = some (.slice A1 (leftL l h).length c1) := (hb.cell (p := ⟨BL, 0, none⟩) HG.out.bl.lt).trans hbl)
            refine ⟨by simp, .inl ⟨_, _, rfl, run_takeDeferred ((hb.block _ (Array.getElem?_eq_some_iff.1 HKD.out).1).trans HKD.out), ?_⟩⟩
            refine ⟨_, results_tmp2 rfl _ _ _, none, 0, by rw [HR.out]; rfl, by rw [HR.out]; exact Kd.R_nil _ _ _ _ _, ?_⟩
            exact (below2 HG.out.bw HG.out.bw.size hb).trans (belowK_b (w := w) (Nat.le_refl _) W2 D0 _ _ (Nat.le_trans hn0 hDD) ((hb.block _ (Array.getElem?_eq_some_iff.1 HKD.out).1).trans HKD.out) rfl rfl)
          · have HR := Lib.hid (show fillR l h = encR (dataL l h) by unfold fillR; rw [if_pos ⟨H9.out, HH9.out⟩, if_pos he, if_neg h6])
            have h6i : (6 : Int) ≤ ((leftL l h).length : Int) := by omega
            have hn6 : 6 ≤ (leftL l h).length := by omega
            have hcut : decide (((leftL l h).length : Int) < 6) = false := by simp; omega
            have hc16 : 6 ≤ c1 := Nat.le_trans hn6 HLL.out
            obtain ⟨A2, c2, hv2⟩ := Kd.R_slice HG.out.oR
            subst hv2
            have hP6 : 6 ≤ P.length := by rw [HG.out.lP]; omega
            have hc26 : 6 ≤ c2 := Nat.le_trans hP6 (Kd.R_reads' HG.out.oR).2.1
            have hbr : W.cell? ⟨BR, 0, none⟩ = some (.slice A2 P.length c2) := HG.out.br.cell
            replace h6 := Lib.hid h6
            replace hlen := Lib.hid hlen
            replace he := Lib.hid he
            gi_wp2_with (gi_at_call 27; refine (callsIn_wide.2 HE.out).mono ?_; rintro e W2 ⟨rfl, hb⟩; have HG2 := Aside0.mk (HG.out.below hb); have hbl2 : W2.cell? ⟨BL, 0, none⟩ = some (.slice A1 (leftL l h).length c1) := HG2.out.bl.cell; have hbr2 : W2.cell? ⟨BR, 0, none⟩ = some (.slice A2 P.length c2) := HG2.out.br.cell; have HKD2 := Lib.hid ((hb.block _ (Array.getElem?_eq_some_iff.1 HKD.out).1).trans HKD.out); clear hbl hbr hb)
            refine wpIn_mono (Q := fun e a' w' => e = .normal ∧ a' = { tmps := #[.pointer (some ⟨g, 0, none⟩), .slice A l.length c, .slice D h.length d, .pointer (some ⟨w.heap.size, 0, none⟩), .pointer (some ⟨Bs, 0, none⟩), undef, .slice none 0 0, .int .i64 0, .pointer (some ⟨BL, 0, none⟩), .pointer (some ⟨BR, 0, none⟩), undef, undef, undef, undef, .pointer (some ⟨g, 0, none⟩), .bool false, .bool false, .slice A l.length c, .int .i64 l.length, .bool false, .bool false, .bool false, .slice D h.length d, .int .i64 h.length, .bool false, .bool false, .slice D h.length d, .func (.func 64) #[] #[.pointer (some ⟨BH, 0, none⟩)], undef, undef, undef, undef, undef, undef, undef, undef, undef, undef, undef, undef, undef, undef, .bool false, .slice A1 (leftL l h).length c1, .bool true, .bool false, .bool false, .slice A1 (leftL l h).length c1, .int .i64 ((leftL l h).length : Nat), .bool false, .slice A1 (leftL l h).length c1, .slice A1 6 c1, .slice A2 P.length c2, .slice A2 6 c2, undef, undef, undef, undef, undef, undef, undef, undef, undef, undef, undef, undef, undef, undef, undef, undef, undef, undef, undef, undef, undef], defers := [{ target := .collected D0, args := #[] }] } ∧ Fi g w.heap.size Bs BL BR (.slice A l.length c) w (.slice A1 6 c1) (.slice A2 6 c2) (.slice A1 (leftL l h).length c1) (.slice A2 P.length c2) (leftL l h) (idx h) P w' ∧ W2.heap.size ≤ w'.heap.size ∧ (∀ (D : Nat) (o : Obj), W2.heap[D]? = some o → o.isCells = false → w'.heap[D]? = some o)) ?reg ?cont
            case reg =>
              refine wpIn_wide.2 ?_
              have f1 := HG2.out.bl.frozen
              have f2 := HG2.out.br.frozen
              have hnel := HG2.out.bl
              have hne : BL ≠ BR := by
                intro e
                have e2 := HG2.out.br
                rw [← e] at e2
                have e3 : W2.heap[BL]? = _ := HG2.out.bl
                rw [show W2.heap[BL]? = _ from e2] at e3
                injection e3 with e3
                injection e3 with _ e3
                exact absurd e3 (by decide)
              have hne2 := Ne.symm hne
              go_region
              all_goals
                refine ⟨rfl, rfl, (HG2.out.put (.slice A1 6 c1) (.slice A2 6 c2)).below (Below.drew (Below.refl _ _)), by simp, fun D o ho hn => ?_⟩
                exact (((KeepsOthers.setCell W2 ⟨BL, 0, none⟩ (.slice A1 6 c1)).from 0).trans ((KeepsOthers.setCell (W2.setCell ⟨BL, 0, none⟩ (.slice A1 6 c1)) ⟨BR, 0, none⟩ (.slice A2 6 c2)).from 0)).same D o (Nat.zero_le _) ho hn
            case cont =>
              rintro e a' W3 ⟨rfl, rfl, HG3, hs3, hd3⟩
              obtain ⟨gR, cR, hvR, hgR, hPt, hPc⟩ := HG3.ptr (by omega)
              injection hvR with e1 e2 e3
              subst e1 e3
              have hP6l : (P.take 6).length = 6 := by rw [List.length_take]; omega
              have hil : ((idx h).take 6).length = 6 := by rw [List.length_take]; have := HG3.lP; omega
              have HSV := solve_calls g gR c2 (P.take 6) (((idx h).take 6).map frow) W3 (HI.out.below HG3.bw) (hPt.take 6) hP6l (HG3.nd.sublist (List.take_sublist 6 P)) (Wf.frows _ hil) (fun i hi => by
                rw [rowAt_map _ _ (by rw [hil]; exact hi), getD_take _ _ _ hi, getD_take _ _ _ hi]
                exact HG3.rw i (by omega)) ⟨by have := HI.out.2.2; omega, fun hm => by have := (HG3.sP g (List.mem_of_mem_take hm)).1; have := HI.out.2.2; omega⟩ hc26
              have HSV := Aside0.mk HSV
              have HKD3 := hd3 D0 _ HKD2.out rfl
              have ct3 := HG3.bt.cell
              have cr3 := HG3.br.cell
              have HSD := Aside0.mk (fun W4 (hF : Fr gR (P.take 6) W3 W4) => HG3.solved hPt hF hgR)
              have hs3' := Lib.hid hs3
              have HKD3 := Lib.hid HKD3
              have HG3 := Aside0.mk HG3
              clear hPt hd3 hs3 hP6l hil HG2 hbl2 hbr2 HKD2
              refine ‹∀ (a : Act) (w : World), Code.wpIn Fence.wide 5 Tryd.prog _ _ a w → _› _ _ (wpIn_wide.2 ?_)
              go_wp2_with (go_at_call 50; refine HSV.out.mono ?_; rintro e W4 ⟨gK, Q, rfl, hQp, hQ6, hQr, hWf, hgK, hI4, hFr⟩)
              obtain ⟨hbt4, hbl4, hoL4, hbw4, hdf4⟩ := HSD.out W4 hFr
              have HT4 := Aside0.mk hbt4
              have HB4 := Aside0.mk hbl4
              have HL4 := Aside0.mk (Kd.R_reads' hoL4).2.2
              have HW4 := Aside0.mk hbw4
              have HK4 := Lib.hid (hdf4 D0 _ HKD3.out rfl)
              have HQp := Aside0.mk hQp
              have HQ6 := Lib.hid hQ6
              have HQr := Aside0.mk hQr
              have HWf := Aside0.mk hWf
              have HI4 := Aside0.mk hI4
              have he6 : Hid (evenB ((leftL l h).take 6) = true) := Lib.hid (evenB_take he.out 6 (by omega))
              have hl6 : Hid (((leftL l h).take 6).length = 6) := Lib.hid (by rw [List.length_take]; omega)
              have hw6 : Hid (wid ((leftL l h).take 6) ≤ 140737488355328) := Lib.hid (by
                rw [take_wid _ _ (by omega)]
                unfold wid leftL
                rw [strAt_map _ _ _ (by have := hlen.out; omega)]
                have hm : (idx h).getD 0 0 < l.length := by
                  have h1 : (idx h).getD 0 0 ∈ idx h := mem_get (by have := hlen.out; omega)
                  have h2 := (List.mem_filter.1 h1).1
                  rw [List.mem_range] at h2
                  have := H9.out
                  have := HH9.out
                  omega
                rw [strAt_eq hm]
                exact HZ.out _ (List.getElem_mem hm))
              have HL6 := Aside0.mk (strs_take HL4.out 6 hn6)
              clear hFr hbt4 hbl4 hoL4 hbw4 hdf4 hQp hQ6 hQr hWf hI4 hgK HL4 HSD ct3 cr3 HKD3
              obtain ⟨R6, hR6⟩ : ∃ R, solveN (((idx h).take 6).map frow) = R := ⟨_, rfl⟩
              obtain ⟨l6, hl6e⟩ : ∃ x, (leftL l h).take 6 = x := ⟨_, rfl⟩
              rw [hR6] at HQr HWf
              rw [hl6e] at he6 hl6 hw6 HL6
              have hDL : Hid (dataL l h = dataK R6 l6 6) := Lib.hid (by unfold dataL; rw [hR6, hl6e])
              clear hR6 hl6e
              have G1 : Aside0 (RS W4.heap.size (.slice none 0 0) (dataK R6 l6 0) W4) := ⟨Kd.R_nil _ _ _ _ _⟩
              have G2 : Aside0 (Below W4.heap.size W4 W4) := ⟨Below.refl _ _⟩
              go_loopw [11, 58] (fun v i wr => ∃ k : Nat, k ≤ 6 ∧ i = .int .i64 k ∧ Aside0 (RS W4.heap.size v (dataK R6 l6 k) wr) ∧ Aside0 (Below W4.heap.size W4 wr)) (fun _ i _ => 6 - (intOf i).toNat)
              case atStart => exact ⟨0, by omega, rfl, G1, G2⟩
              case round =>
                clear G1 G2
                obtain ⟨k, hk, rfl, G1, G2⟩ := hrel
                by_cases hlt : k < 6
                · have HK := Lib.hid hlt
                  obtain ⟨qk, hqk⟩ : ∃ q, Q.getD k 0 = q := ⟨_, rfl⟩
                  have cq := (HQp.out.at' (G2.out.block _ HQp.out.lt)).cell k (by rw [HQ6.out]; exact hlt)
                  rw [hqk] at cq
                  have cq : wr.cell? ⟨gK, k, none⟩ = some (.slice (some ⟨qk, 0, none⟩) 6 6) := cq
                  have ct := (HT4.out.kept (grown_below G2.out none) (by simp)).cell
                  have cl := (HB4.out.kept (grown_below G2.out none) (by simp)).cell
                  have hrow := HQr.out k hlt
                  rw [hqk] at hrow
                  have MX := mix_calls g qk 6 (rowAt R6 k) A1 c1 l6 (wid l6) wr (HI4.out.below G2.out) (hrow.keep G2.out) (HWf.out.row hlt).2 (by rw [hl6.out, (HWf.out.row hlt).1]; exact Nat.le_refl _) (by rw [(HWf.out.row hlt).1]; exact Nat.le_refl _) (Kd.C_below HL6.out G2.out) (by rw [hl6.out]; exact hc16) (by rw [hl6.out]; decide) (fun s hs => evenB_size he6.out hs) hw6.out
                  rw [(HWf.out.row hlt).1, hl6.out] at MX
                  have MX := Aside0.mk (show Calls Tryd.prog 28 #[.pointer (some ⟨g, 0, none⟩), .slice (some ⟨qk, 0, none⟩) 6 6, .slice A1 6 c1] wr fun e w' => e = .returned (.string (mixS (rowAt R6 k) l6)) ∧ Below wr.heap.size wr w' from MX)
                  clear hqk hrow
                  go_wp2_with (first | (go_at_call 28; refine MX.out.mono ?_; rintro e w2 ⟨rfl, hb⟩; have G1 := Aside0.mk (G1.out.keep hb); have G2 := Aside0.mk (below2 G2.out G2.out.size hb); clear hb cq ct cl) | (at_builtin; refine Kd.R_append Kd.string (w0 := W4) W4.heap.size rfl (.tmp 62) (.tmp 67) 30 9 (.string ⟨#[]⟩) 16 rfl Tryd.underlying30 infoStr rfl (by decide) (by decide) u11 (dataK R6 l6 k) (mixS (rowAt R6 k) l6) [.string (mixS (rowAt R6 k) l6)] (fun j => W4.heap.size ≤ j) (fun _ => False) rfl rfl rfl (fun _ hk => hk.elim) (fun j hj => Nat.le_trans G2.out.size hj) G1.out G2.out G2.out.size (by rw [dataK_len]; have := HK.out; omega) ?_; intro v1 w3 hR hB hg _; rw [dataK_succ] at hR; have G1 := Aside0.mk hR; have G2 := Aside0.mk hB; clear hR hB hg))
                  go_roundw
                  case rel => exact ⟨k + 1, HK.out, by go_num, G1, G2⟩
                  case measure => have := HK.out; simp [intOf]; omega
                · obtain rfl : k = 6 := by omega
                  obtain ⟨A5, c5, hv5⟩ := Kd.R_slice G1.out
                  subst hv5
                  have hr5 := Kd.R_reads' G1.out
                  have EN := encode_calls g A5 c5 (dataK R6 l6 6) wr (HI4.out.below G2.out) hr5.2.2 hr5.2.1 (fun s hs => by
                    obtain ⟨i, hi, rfl⟩ := List.mem_map.1 hs
                    unfold mixS
                    rw [B_size, mixL_len]
                    exact hw6.out)
                  have EN := Aside0.mk EN
                  have ct := (HT4.out.kept (grown_below G2.out none) (by simp)).cell
                  clear hr5
                  go_wp2_with (go_at_call 19; refine EN.out.mono ?_; rintro e W5 ⟨A6, c6, rfl, hO, hB⟩)
                  have hK5 := (hB.block _ (Nat.lt_of_lt_of_le (Array.getElem?_eq_some_iff.1 HK4.out).1 G2.out.size)).trans ((G2.out.block _ (Array.getElem?_eq_some_iff.1 HK4.out).1).trans HK4.out)
                  have hbW := below2 HW4.out HW4.out.size (below2 G2.out G2.out.size hB)
                  refine ⟨by simp, .inl ⟨_, _, rfl, run_takeDeferred hK5, ?_⟩⟩
                  refine ⟨_, results_tmp2 rfl _ _ _, A6, c6, by rw [HR.out, hDL.out]; rfl, ?_, hbW.trans (belowK_b (w := w) (Nat.le_refl _) W5 D0 _ _ (Nat.le_trans hn0 hDD) hK5 rfl rfl)⟩
                  rw [HR.out, hDL.out]
                  refine R_calm2 (Kd.R_mono (Kd.R_lower hO (Nat.le_trans HW4.out.size G2.out.size)) (fun k hk => Nat.le_trans (Nat.le_trans HW4.out.size G2.out.size) hk)) (grownBy_putObj' W5 D0 (.deferred none)) (fun r e' => by cases e'; exact ⟨_, hK5, rfl⟩)
    · have hh9n : ((h.length : Int) != 9) = true := by rw [bne_iff_ne]; omega
      have HR := Lib.hid (show fillR l h = ([], 1) by unfold fillR; rw [if_neg (fun e => hh9 e.2)])
      have hh9 := Lib.hid hh9
      have h9 := Lib.hid h9
      gi_wp2_with fail
      refine ⟨_, results_tmp2 rfl _ _ _, none, 0, by rw [HR.out]; rfl, by rw [HR.out]; exact Kd.R_nil _ _ _ _ _, below_alloc (below_alloc (Below.refl _ w) _) _⟩
  · have h9n : ((l.length : Int) != 9) = true := by rw [bne_iff_ne]; omega
    have HR := Lib.hid (show fillR l h = ([], 1) by unfold fillR; rw [if_neg (fun e => h9 e.1)])
    have h9 := Lib.hid h9
    gi_wp2_with fail
    refine ⟨_, results_tmp2 rfl _ _ _, none, 0, by rw [HR.out]; rfl, by rw [HR.out]; exact Kd.R_nil _ _ _ _ _, below_alloc (below_alloc (Below.refl _ w) _) _⟩
end Go.Proofs.YtdcfonmjbelgbaaDoor
end
section
namespace Go.Proofs.YtdcfonmjbelgbaaDoor
open Go.RowKit Q Go.Proofs.YtdcfonmjbelgbaaDoorW.PrintWords Go.Proofs.YtdcfonmjbelgbaaDoorW.PrintLast Go.Proofs.YtdcfonmjbelgbaaDoorW.PrintMore
theorem str_ext {a b : ByteArray} (hs : a.size = b.size) (h : ∀ p, p < a.size → byt a p = byt b p) : a = b := by
  apply eq_of_data
  apply List.ext_getElem
  · simpa using hs
  · intro i h1 h2
    have h1' : i < a.size := by simpa using h1
    have h3 := h i h1'
    have h2' : i < b.size := by omega
    rw [byt_eq a i h1', byt_eq b i h2'] at h3
    exact UInt8.toNat_inj.1 h3
theorem mixS_size (fs : List Nat) (l : List ByteArray) : (mixS fs l).size = wid l := by unfold mixS; rw [B_size, mixL_len]
theorem byt_mix (fs : List Nat) (l : List ByteArray) (p : Nat) (hp : p < wid l) : byt (mixS fs l) p = accAt fs l l.length p := by
  have h1 := accAt_le fs l l.length p
  unfold byt mixS
  rw [B_data, mixL, List.getD_eq_getElem?_getD, List.getElem?_map, List.getElem?_range hp]
  simp
  omega
theorem tried_all (h : List Bool) (hl : h.length = 9) : tried h = true := by
  match h, hl with
  | [a, b, c, d, e, f, g, i, j], _ => exact all_tried a b c d e f g i j
theorem six_idx (h : List Bool) (hl : h.length = 9) : sixc h = (idx h).take 6 := by unfold sixc idx; rw [hl]
theorem turned (h : List Bool) (hl : h.length = 9) (h6 : 6 ≤ (idx h).length) : turns (((idx h).take 6).map frow) (solveN (((idx h).take 6).map frow)) = true := by
  have ht := tried_all h hl
  unfold tried at ht
  have e : (sixc h).length = 6 := by rw [six_idx h hl, List.length_take]; omega
  rw [frcM_eq, solveF_eq, e, six_idx h hl] at ht
  simpa using ht
theorem turns_at {R M : List (List Nat)} (h : turns R M = true) (k j : Nat) (hk : k < 6) (hj : j < 6) : xsum 6 (fun l => tim (elem R k l) (elem M l j)) = (if k = j then 1 else 0) ∧ xsum 6 (fun l => tim (elem M k l) (elem R l j)) = (if k = j then 1 else 0) := by
  unfold turns at h
  simp only [Bool.and_eq_true, List.all_eq_true, decide_eq_true_eq] at h
  have := h.2 k (by rw [List.mem_range]; exact hk) j (by rw [List.mem_range]; exact hj)
  simp only [timF_eq] at this
  exact this
theorem turns_wf {R M : List (List Nat)} (h : turns R M = true) : Wf M := by
  unfold turns at h
  simp only [Bool.and_eq_true, List.all_eq_true, decide_eq_true_eq] at h
  refine ⟨h.1.1, fun i hi => ?_⟩
  have hm : rowAt M i ∈ M := by
    unfold rowAt
    rw [List.getD_eq_getElem?_getD, List.getElem?_eq_getElem (by rw [h.1.1]; exact hi)]
    exact List.getElem_mem _
  exact h.1.2 _ hm
theorem elem_frow (IX : List Nat) (k l : Nat) (hk : k < IX.length) (hl : l < 6) : elem (IX.map frow) k l = fac (IX.getD k 0) l := by
  unfold elem
  rw [rowAt_map _ _ hk, frow_get _ _ hl]
theorem strAt_dataK (R : List (List Nat)) (l : List ByteArray) (k i : Nat) (hi : i < k) : strAt (dataK R l k) i = mixS (rowAt R i) l := by
  unfold strAt dataK
  rw [List.getD_eq_getElem?_getD, List.getElem?_map, List.getElem?_range hi]
  rfl
theorem wid_dataK (R : List (List Nat)) (l : List ByteArray) (k : Nat) (hk : 0 < k) : wid (dataK R l k) = wid l := by
  unfold wid
  rw [strAt_dataK _ _ _ _ hk, mixS_size]
  rfl
theorem evenB_dataK (R : List (List Nat)) (l : List ByteArray) (k : Nat) : evenB (dataK R l k) = true := by
  unfold evenB
  rw [List.all_eq_true]
  intro s hs
  have hk : 0 < k := by
    cases k with
    | zero => cases hs
    | succ k => omega
  rw [wid_dataK _ _ _ hk]
  obtain ⟨i, _, rfl⟩ := List.mem_map.1 hs
  rw [mixS_size]
  simp
theorem strAt_wid {l : List ByteArray} (he : evenB l = true) {k : Nat} (hk : k < l.length) : (strAt l k).size = wid l := evenB_size he (by rw [strAt_eq hk]; exact List.getElem_mem hk)
theorem accAt_fac (i : Nat) (l : List ByteArray) (p : Nat) : accAt (frow i) l 6 p = xsum 6 fun j => tim (fac i j) (byt (strAt l j) p) := by
  unfold accAt
  exact xsum_congr _ _ _ fun j hj => by rw [frow_get i j hj]
theorem accAt_elem (M : List (List Nat)) (i : Nat) (l : List ByteArray) (p : Nat) : accAt (rowAt M i) l 6 p = xsum 6 fun j => tim (elem M i j) (byt (strAt l j) p) := rfl
theorem data_back (h : List Bool) (hl : h.length = 9) (h6 : 6 ≤ (idx h).length) (d l6 : List ByteArray) (hd : d.length = 6) (he : evenB d = true) (hl6 : l6.length = 6) (hs : ∀ k, k < 6 → strAt l6 k = mixS (frow (((idx h).take 6).getD k 0)) d) :
    dataK (solveN (((idx h).take 6).map frow)) l6 6 = d := by
  have ht := turned h hl h6
  have hil : ((idx h).take 6).length = 6 := by rw [List.length_take]; omega
  generalize (idx h).take 6 = IX at *
  generalize hM : solveN (IX.map frow) = M at *
  have hw := turns_wf ht
  have hwl : wid l6 = wid d := by
    show (strAt l6 0).size = _
    rw [hs 0 (by omega), mixS_size]
  apply List.ext_getElem
  · rw [dataK_len, hd]
  · intro k h0 h2
    have h1 := h0
    rw [dataK_len] at h1
    have e0 : (dataK M l6 6)[k] = mixS (rowAt M k) l6 := by simp [dataK]
    refine e0.trans (Eq.trans ?_ (strAt_eq h2))
    refine str_ext (by rw [mixS_size, hwl, strAt_wid he h2]) fun p hp => ?_
    rw [mixS_size] at hp
    have hp6 : p < wid d := by rw [← hwl]; exact hp
    rw [byt_mix _ _ _ hp, hl6, accAt_elem]
    have e1 : ∀ j, j < 6 → byt (strAt l6 j) p = xsum 6 fun m => tim (elem (IX.map frow) j m) (byt (strAt d m) p) := fun j hj => by
      rw [hs j hj, byt_mix _ _ _ hp6, hd, accAt_fac]
      exact xsum_congr _ _ _ fun m hm => by rw [elem_frow IX j m (by omega) hm]
    rw [xsum_congr 6 _ (fun j => tim (elem M k j) (xsum 6 fun m => tim (elem (IX.map frow) j m) (byt (strAt d m) p))) (fun j hj => congrArg (tim (elem M k j)) (e1 j hj))]
    rw [dot_assoc 6 6 _ _ _ (fun j hj => elem_le hw h1 hj) (fun j m hj hm => by rw [elem_frow IX j m (by omega) hm]; exact fac_le _ _) (fun m _ => byt_le _ _)]
    rw [xsum_congr 6 _ (fun m => tim (if k = m then 1 else 0) (byt (strAt d m) p)) (fun m hm => by rw [(turns_at ht k m h1 hm).2])]
    rw [xsum_unit 6 k _ (fun j _ => byt_le _ _), if_pos h1]
theorem strAt_enc (d : List ByteArray) (i : Nat) (hi : i < 9) : strAt (encL d) i = mixS (frow i) d := by
  unfold strAt encL
  rw [List.getD_eq_getElem?_getD, List.getElem?_map, List.getElem?_range hi]
  rfl
theorem enc_data (d : List ByteArray) (hd : d.length = 6) (he : evenB d = true) (i : Nat) (hi : i < 6) : mixS (frow i) d = strAt d i := by
  refine str_ext (by rw [mixS_size, strAt_wid he (by omega)]) fun p hp => ?_
  rw [mixS_size] at hp
  rw [byt_mix _ _ _ hp, hd, accAt_fac]
  rw [xsum_congr 6 _ (fun j => tim (if i = j then 1 else 0) (byt (strAt d j) p)) (fun j hj => by
    have : fac i j = if i = j then 1 else 0 := by unfold fac; rw [if_neg (by omega)]
    rw [this])]
  rw [xsum_unit 6 i _ (fun j _ => byt_le _ _), if_pos hi]
theorem enc_take (d : List ByteArray) (hd : d.length = 6) (he : evenB d = true) : (encL d).take 6 = d := by
  apply List.ext_getElem
  · rw [List.length_take, encL_len, hd]; rfl
  · intro i h1 h2
    have hi : i < 6 := by omega
    rw [← strAt_eq h2, ← enc_data d hd he i hi, ← strAt_enc d i (by omega), List.getElem_take, strAt_eq (by rw [encL_len]; omega)]
theorem fillR_ok {l : List ByteArray} {h : List Bool} (hl : l.length = 9) (hh : h.length = 9) (he : evenB (leftL l h) = true) (h6 : 6 ≤ (idx h).length) : fillR l h = (encL (dataL l h), 0) := by
  unfold fillR
  rw [if_pos ⟨hl, hh⟩, if_pos he, if_neg (by omega)]
  unfold encR
  rw [if_pos ⟨dataK_len _ _ _, evenB_dataK _ _ _⟩]
theorem idx_mem {h : List Bool} {i : Nat} (hi : i ∈ idx h) : i < h.length ∧ h.getD i false = true := by
  have h1 := List.mem_filter.1 hi
  exact ⟨by simpa using h1.1, by simpa using h1.2⟩
theorem fillR_code {d : List ByteArray} (hd : d.length = 6) (he : evenB d = true) {l : List ByteArray} {h : List Bool} (hl : l.length = 9) (hh : h.length = 9) (hs : ∀ i, i < 9 → h.getD i false = true → strAt l i = strAt (encL d) i) :
    fillR l h = if (idx h).length < 6 then ([], 2) else (encL d, 0) := by
  have hsz : ∀ i ∈ idx h, (strAt l i).size = wid d := fun i hi => by
    have hm := idx_mem hi
    rw [hs i (by omega) hm.2, strAt_enc d i (by omega), mixS_size]
  have hev : evenB (leftL l h) = true := by
    unfold evenB
    rw [List.all_eq_true]
    intro s hsm
    obtain ⟨i, hi, rfl⟩ := List.mem_map.1 hsm
    have hpos : 0 < (idx h).length := List.length_pos_of_mem hi
    have hw : wid (leftL l h) = wid d := by
      unfold wid leftL
      rw [strAt_map _ _ _ hpos]
      exact hsz _ (mem_get hpos)
    rw [hw, hsz i hi]
    simp
  by_cases h6 : (idx h).length < 6
  · rw [if_pos h6]
    unfold fillR
    rw [if_pos ⟨hl, hh⟩, if_pos hev, if_pos h6]
  · rw [if_neg h6, fillR_ok hl hh hev (by omega)]
    have hdl : dataL l h = d := by
      unfold dataL
      refine data_back h hh (by omega) d _ hd he (by rw [List.length_take]; unfold leftL; rw [List.length_map]; omega) fun k hk => ?_
      have e1 : strAt ((leftL l h).take 6) k = strAt (leftL l h) k := by
        unfold strAt
        rw [List.getD_eq_getElem?_getD, List.getD_eq_getElem?_getD, List.getElem?_take, if_pos hk]
      rw [e1, getD_take _ _ _ hk]
      unfold leftL
      rw [strAt_map _ _ _ (by omega)]
      have hm := idx_mem (mem_get (P := idx h) (i := k) (by omega))
      rw [hs _ (by omega) hm.2, strAt_enc d _ (by omega)]
    rw [hdl]
end Go.Proofs.YtdcfonmjbelgbaaDoor
end
section
namespace Go.Proofs.YtdcfonmjbelgbaaDoor
open Go.RowKit Go.Maps Q Go.Proofs.YtdcfonmjbelgbaaDoorW.PrintWords Go.Proofs.YtdcfonmjbelgbaaDoorW.PrintLast
theorem nbt_at (l : List UInt8) (i : Nat) (h : i < l.length) : bt (B l) (i : Int) = ((l[i]).toNat : Int) := by
  rw [bt_B, List.getD, List.getElem?_eq_getElem h]
  rfl
theorem nwrap_k (i : Nat) (h : i ≤ 140737488355328) : wrap64 ((i : Int) + 1) = ((i + 1 : Nat) : Int) := by unfold wrap64; omega
end Go.Proofs.YtdcfonmjbelgbaaDoor
end
section
namespace Go.Proofs.YtdcfonmjbelgbaaDoor
end Go.Proofs.YtdcfonmjbelgbaaDoor
end
section
namespace Go.Proofs.YtdcfonmjbelgbaaDoor
open Go.RowKit
theorem wpIn_range_stops {F : Fence} {n : Nat} {P : Program} {α : Type} {g : Operand} {ps : Array Tmp} {assign body : Code} {Q : Exit → Act → World → Prop} {a : Act} {w : World} (hro : F.round = none) (h1 : 1 ≤ n) {gf : Nat} {lb : Array Value} (hg : a.eval g = .func (.func gf) #[] lb) (hFg : F.fn gf) (eg : ∀ args w, (callFunc gf args).run P w = .ok (.enter gf args) w)
    {encs : α → Array Value} (V : α → World → Prop) (stp : α → Prop) (S Sp : List α → Prop) (N n₀ : Nat) (Bx : World → Prop) (hn₀ : n₀ ≤ w.heap.size) (hps : ∀ x, (encs x).size = ps.size)
    (hseq : ∀ (l : Nat) (J Jx : List α → World → Prop) (W : World), Below w.heap.size w W → (∀ s A B, J s A → A.grownBy B none → J s B) → (∀ s A B, Jx s A → A.grownBy B none → Jx s B) → (∀ s A, J s A → Bx A) →
      (∀ pre x W1, J pre W1 → V x W1 → pre.length < N → YieldAt F (n - 1 - 1) P l (encs x) W1 fun e W' => (e = .returned (.bool true) ∧ ¬ stp x ∧ J (pre ++ [x]) W' ∧ Below n₀ W1 W') ∨ (e = .returned (.bool false) ∧ stp x ∧ Jx (pre ++ [x]) W' ∧ Below n₀ W1 W')) → J [] W →
      CallsIn F (n - 1) P gf (#[.func (.yield l) #[] #[]] ++ lb) W fun e W' => (∃ v, e = .returned v) ∧ ((∃ xs, S xs ∧ J xs W') ∨ (∃ xs, Sp xs ∧ Jx xs W')))
    (I Ix : List α → World → Prop) (hI : OwnFrom w.heap.size I) (hIx : OwnFrom w.heap.size Ix) (hBx : ∀ s A, I s A → Bx A) (h0 : I [] w) (Ax : List α → α → Act → World → Prop) (hAx : ∀ pre x a', OwnFrom w.heap.size (fun (_ : Unit) W => Ax pre x a' W))
    (hassign : ∀ (l : Nat) (pre : List α) (x : α) (W : World) (K : Act → World → Prop), I pre W → V x W → pre.length < N → (∀ a' W', KeepsFrom w.heap.size W W' → Below n₀ W W' → Ax pre x a' W' → K a' W') →
      assign.wpIn (F.inRound l) (n - 1 - 1) P (Exit.then K (fun _ _ _ => False)) { tmps := (ps.zip (encs x)).foldl (fun t (p, v) => t.setIfInBounds p v) a.tmps, defers := [] } W)
    (hbody : ∀ (l : Nat) (pre : List α) (x : α) (a' : Act) (W : World), Ax pre x a' W → body.wpIn (F.inRound l) (n - 1 - 1) P (fun e _ W' => KeepsFrom w.heap.size W W' ∧ Below n₀ W W' ∧ ((e = .normal ∧ ¬ stp x ∧ I (pre ++ [x]) W') ∨ (e = .ret ∧ stp x ∧ Ix (pre ++ [x]) W'))) a' W)
    (hdone : ∀ (D : Nat) (xs : List α) (W : World), w.heap.size ≤ D → S xs → I xs W → W.heap[D]? = some (.deferred (some [])) → Q .normal { a with defers := { target := .collected D, args := #[] } :: a.defers } W)
    (hleft : ∀ (D : Nat) (xs : List α) (W : World), w.heap.size ≤ D → Sp xs → Ix xs W → W.heap[D]? = some (.deferred (some [])) → Q .ret { a with defers := { target := .collected D, args := #[] } :: a.defers } W) :
    (Code.rangeFunc g ps assign body).wpIn F n P Q a w := by
  refine wpIn_rangeFunc fun fn hfn => ?_
  rw [hro]
  obtain ⟨mk, hmk⟩ : ∃ mk : LoopState → Option Code → Loop, mk = fun st pe => { state := st, pending := pe, fn, tmps := a.tmps, params := ps, assign, body, defers := w.heap.size } := ⟨_, rfl⟩
  obtain ⟨W1, hW1⟩ : ∃ W1, (w.alloc (.deferred (some []))).alloc (.loop (mk .ready none)) = W1 := ⟨_, rfl⟩
  have hL1 : W1.heap[w.heap.size + 1]? = some (.loop (mk .ready none)) := by
    have := World.alloc_heap_new (w.alloc (.deferred (some []))) (.loop (mk .ready none))
    rwa [World.size_alloc, hW1] at this
  have hD1 : W1.heap[w.heap.size]? = some (.deferred (some [])) := by
    rw [← hW1]
    exact (Below.heap_alloc _ _ _ (by simp)).trans (World.alloc_heap_new w _)
  have hI1 : I [] W1 := by rw [← hW1]; exact hI.alloc _ (hI.alloc _ h0)
  have hB1 : Below w.heap.size w W1 := by rw [← hW1]; exact ((Below.refl _ w).alloc (Nat.le_refl _) _).alloc (by simp) _
  refine ⟨w.heap.size + 1, [{ target := .collected w.heap.size, args := #[] }], W1, { target := .fn (.func gf) lb, args := #[.func (.yield (w.heap.size + 1)) #[] #[]] }, W1, gf, #[.func (.yield (w.heap.size + 1)) #[] #[]] ++ lb, W1, ?_, ?_, ?_, ?_, fun _ => h1, ?_⟩
  · rw [← hW1, hmk]
    exact run_enterLoop_outer _ _ _ _ _
  · simp only [resolve, hg]
    simp [go_sem]
  · intro f' hf'
    simp [Target.leads] at hf'
    subst hf'
    exact hFg
  · simp [invoke, go_sem, eg]
  · refine (hseq (w.heap.size + 1) (fun pre W => I pre W ∧ W.heap[w.heap.size + 1]? = some (.loop (mk .ready none)) ∧ W.heap[w.heap.size]? = some (.deferred (some []))) (fun pre W => Ix pre W ∧ W.heap[w.heap.size + 1]? = some (.loop (mk .done (some .ret))) ∧ W.heap[w.heap.size]? = some (.deferred (some []))) W1 hB1 ?_ ?_ (fun s A h => hBx s A h.1) ?_ ⟨hI1, hL1, hD1⟩).mono ?_
    · rintro s A B ⟨hi, hl, hd⟩ hgr
      exact ⟨hI s A B none hi hgr (fun r e => by cases e), (hgr.block _ (Array.getElem?_eq_some_iff.1 hl).1 (by simp)).trans hl, (hgr.block _ (Array.getElem?_eq_some_iff.1 hd).1 (by simp)).trans hd⟩
    · rintro s A B ⟨hi, hl, hd⟩ hgr
      exact ⟨hIx s A B none hi hgr (fun r e => by cases e), (hgr.block _ (Array.getElem?_eq_some_iff.1 hl).1 (by simp)).trans hl, (hgr.block _ (Array.getElem?_eq_some_iff.1 hd).1 (by simp)).trans hd⟩
    · rintro pre x W ⟨hi, hl, hd⟩ hv hN
      have hy := run_yield (P := P) (args := encs x) hl (by rw [hmk]; exact hps x)
      rw [hmk] at hy
      refine ⟨fn, _, assign, body, hy, roundIn_of_wpIn hfn (hassign _ pre x W _ hi hv hN ?_)⟩
      clear hy
      intro a' Wa hk hb hax
      have hla := hk.same _ _ (by omega) hl rfl
      have hda := hk.same _ _ (Nat.le_refl _) hd rfl
      have hlt : w.heap.size + 1 < Wa.heap.size := (Array.getElem?_eq_some_iff.1 hla).1
      refine ⟨_, run_beginRound hla (by rw [hmk]), ?_⟩
      have hl2 : (Wa.putObj (w.heap.size + 1) (.loop { mk .ready none with state := .busy })).heap[w.heap.size + 1]? = some (.loop { mk .ready none with state := .busy }) := World.putObj_heap_same hlt
      have hd2 : (Wa.putObj (w.heap.size + 1) (.loop { mk .ready none with state := .busy })).heap[w.heap.size]? = some (.deferred (some [])) := (World.putObj_heap_other (by omega)).trans hda
      have hb2 := belowK_b (w := w) hn₀ Wa (w.heap.size + 1) _ (.loop { mk .ready none with state := .busy }) (by omega) hla rfl rfl
      refine wpIn_mono (hbody _ pre x a' _ ((hAx pre x a').putObj (s := ()) _ hax (by omega) hla rfl)) ?_
      rintro e a3 W3 ⟨hk3, hb3, hend⟩
      have hl3 := hk3.same _ _ (by omega) hl2 rfl
      have hd3 := hk3.same _ _ (Nat.le_refl _) hd2 rfl
      rcases hend with ⟨rfl, hx, hi3⟩ | ⟨rfl, hx, hi3⟩
      · have hr := run_endRound (P := P) none hl3
        rw [hmk] at hr hl3
        refine ⟨_, _, hr, .inl ⟨rfl, hx, ⟨hI.putObj _ hi3 (by omega) hl3 rfl, ?_, (World.putObj_heap_other (by omega)).trans hd3⟩, ?_⟩⟩
        · rw [hmk]
          exact World.putObj_heap_same (Array.getElem?_eq_some_iff.1 hl3).1
        · exact (hb.trans (hb2.trans hb3)).trans (belowK_b (w := w) hn₀ W3 (w.heap.size + 1) _ _ (by omega) hl3 rfl rfl)
      · have hr := run_endRound (P := P) (some .ret) hl3
        rw [hmk] at hr hl3
        refine ⟨_, _, hr, .inr ⟨rfl, hx, ⟨hIx.putObj _ hi3 (by omega) hl3 rfl, ?_, (World.putObj_heap_other (by omega)).trans hd3⟩, ?_⟩⟩
        · rw [hmk]
          exact World.putObj_heap_same (Array.getElem?_eq_some_iff.1 hl3).1
        · exact (hb.trans (hb2.trans hb3)).trans (belowK_b (w := w) hn₀ W3 (w.heap.size + 1) _ _ (by omega) hl3 rfl rfl)
    · rintro e W2 ⟨⟨v, rfl⟩, ⟨xs, hS, hi, hl, hd⟩ | ⟨xs, hS, hi, hl, hd⟩⟩
      · have hr := run_endLoop (P := P) hl (by rw [hmk]; simp)
        rw [hmk] at hr
        exact ⟨none, _, hr, hdone _ xs _ (Nat.le_refl _) hS (hI.putObj _ hi (by omega) hl rfl) ((World.putObj_heap_other (by omega)).trans hd)⟩
      · have hr := run_endLoop (P := P) hl (by rw [hmk]; simp)
        rw [hmk] at hr
        exact ⟨some .ret, _, hr, wpIn_ret (hleft _ xs _ (Nat.le_refl _) hS (hIx.putObj _ hi (by omega) hl rfl) ((World.putObj_heap_other (by omega)).trans hd))⟩
end Go.Proofs.YtdcfonmjbelgbaaDoor
end
section
namespace Go.Proofs.YtdcfonmjbelgbaaDoor
open Go.RowKit Q Go.Proofs.YtdcfonmjbelgbaaDoorW.PrintWords Go.Proofs.YtdcfonmjbelgbaaDoorW.PrintLast Go.Proofs.YtdcfonmjbelgbaaDoorW.PrintMore
attribute [local go_sem] Oper.semAt_some
theorem ngrown_of {w w' : World} (b : Below w.heap.size w w') : w.grownBy w' none := ⟨b.os, b.tape, b.output, b.size, fun k hk _ => b.block k hk⟩
end Go.Proofs.YtdcfonmjbelgbaaDoor
end
section
namespace Go.Proofs.YtdcfonmjbelgbaaDoor
open Go.RowKit Q Go.Proofs.YtdcfonmjbelgbaaDoorW.PrintWords Go.Proofs.YtdcfonmjbelgbaaDoorW.PrintLast Go.Proofs.YtdcfonmjbelgbaaDoorW.PrintMore
theorem ngrown_set (w : World) (g i : Nat) (v : Value) : w.grownBy (w.setCell ⟨g, i, none⟩ v) (some g) := ⟨rfl, rfl, rfl, by simp, fun k _ hk => Below.heap_setCell w ⟨g, i, none⟩ v k (fun e => hk (by rw [e]))⟩
theorem ngrown_below {w w' : World} (b : Below w.heap.size w w') (r : Option Nat) : w.grownBy w' r := ⟨b.os, b.tape, b.output, b.size, fun k hk _ => b.block k hk⟩
theorem nR_step {α : Type} {d : Kd α} {e base : Nat} {W W1 : World} {ok : Nat → Prop} {v : Value} {xs : List α} {row : Option Nat} (h : d.R e W base ok v xs) (hg : W.grownBy W1 row) (t : TypeId) (hrow : ∀ k, row = some k → ∃ cells, W.heap[k]? = some (.cells cells t (0, 0))) (ht : ∀ q, q ∈ e :: d.E → q ≠ t) : d.R e W1 base ok v xs :=
  Kd.R_mono (Kd.R_move (Kd.R_bound h) (fun k hk => hg.block k hk.2.2.1 (fun e' => by
    obtain ⟨_, _, _, q, hq, cells, hc⟩ := hk
    obtain ⟨cells2, hc2⟩ := hrow k e'.symm
    rw [hc] at hc2
    injection hc2 with hc2
    injection hc2 with _ hc2
    exact ht q hq hc2))) (fun _ hk => hk.1)
theorem nbox_step {W W1 : World} {B : Nat} {T : TypeId} {v : Value} {row : Option Nat} (h : Boxed W B T v) (hg : W.grownBy W1 row) (t : TypeId) (hrow : ∀ k, row = some k → ∃ cells, W.heap[k]? = some (.cells cells t (0, 0))) (ht : T ≠ t) : Boxed W1 B T v :=
  h.kept hg (fun e => by
    obtain ⟨cells2, hc2⟩ := hrow B e.symm
    rw [show W.heap[B]? = _ from h] at hc2
    injection hc2 with hc2
    injection hc2 with _ hc2
    exact ht hc2)
theorem nR_calm {α : Type} {d : Kd α} {e base : Nat} {ok : Nat → Prop} {X Y : World} {v : Value} {xs : List α} {row : Option Nat} (h : d.R e X base ok v xs) (hg : X.grownBy Y row) (hr : ∀ r, row = some r → ∃ o : Obj, X.heap[r]? = some o ∧ o.isCells = false) : d.R e Y base ok v xs :=
  Kd.R_mono (Kd.R_move (Kd.R_bound h) (fun k hk => hg.block k hk.2.2.1 (fun e' => by
    obtain ⟨_, _, _, q, _, cells, hc⟩ := hk
    obtain ⟨o, ho, hn⟩ := hr k e'.symm
    rw [hc] at ho
    cases ho
    cases hn))) (fun _ hk => hk.1)
theorem nblk_calm {X Y : World} {g : Nat} {c : Array Value} {T : TypeId} {row : Option Nat} (h : Blk X g c T) (hg : X.grownBy Y row) (hr : ∀ r, row = some r → ∃ o : Obj, X.heap[r]? = some o ∧ o.isCells = false) : Blk Y g c T :=
  (hg.block g (Array.getElem?_eq_some_iff.1 (show X.heap[g]? = _ from h)).1 (fun e' => by
    obtain ⟨o, ho, hn⟩ := hr g e'.symm
    rw [show X.heap[g]? = _ from h] at ho
    cases ho
    cases hn)).trans h
theorem nbelow_between {n : Nat} {w W W1 : World} (b1 : Below n w W) (b2 : Below n w W1) (hs : W.heap.size ≤ W1.heap.size) : Below n W W1 :=
  ⟨b2.os.trans b1.os.symm, b2.tape.trans b1.tape.symm, b2.output.trans b1.output.symm, hs, fun k hk => (b2.block k hk).trans (b1.block k hk).symm⟩
theorem nkeeps_typed {B : Nat} {W W1 : World} {row : Option Nat} (hg : W.grownBy W1 row) {t : TypeId} (hrow : ∀ k, row = some k → ∃ cells, W.heap[k]? = some (.cells cells t (0, 0))) : KeepsFrom B W W1 :=
  ⟨hg.size, fun k o _ hk ho => (hg.block k (Array.getElem?_eq_some_iff.1 hk).1 (fun e => by
    obtain ⟨cells, hc⟩ := hrow k e.symm
    rw [hc] at hk
    cases hk
    cases ho)).trans hk⟩
end Go.Proofs.YtdcfonmjbelgbaaDoor
end
section
namespace Go.Proofs.YtdcfonmjbelgbaaDoor
open Go.RowKit Q Go.Proofs.YtdcfonmjbelgbaaDoorW.PrintWords Go.Proofs.YtdcfonmjbelgbaaDoorW.PrintLast Go.Proofs.YtdcfonmjbelgbaaDoorW.PrintMore
attribute [local go_sem] Oper.semAt_some
theorem chunk_calls (g cap : Nat) (w : World) (n : Nat) : CallsIn Fence.wide n Tryd.prog 26 #[.slice (some ⟨g, 0, none⟩) 384 cap, .int .i64 64] w fun e w' => e = .returned (.func (.func 37) #[] #[.pointer (some ⟨w.heap.size, 0, none⟩), .pointer (some ⟨w.heap.size + 1, 0, none⟩)]) ∧ w' = (w.alloc (.cells #[.slice (some ⟨g, 0, none⟩) 384 cap] 70)).alloc (.cells #[.int .i64 64] 3) := by
  refine callsIn_of_wp Tryd.func26 rfl trivial ?_ rfl
  simp only [Tryd.ntmps26, List.size_toArray, List.length_cons, List.length_nil, Nat.reduceAdd, Nat.reduceSub, Array.replicate_succ, Array.replicate_zero, List.push_toArray, List.append_toArray, List.nil_append, List.cons_append]
  gi_wp2
  go_ret
  exact ⟨rfl, rfl⟩
set_option maxRecDepth 100000 in
set_option maxHeartbeats 1000000 in
theorem chunk_in (n : Nat) (hn : 1 ≤ n) (l B1 B2 g cap : Nat) (hcap : 384 ≤ cap) (w0 : World) (J Jx : List Nat → World → Prop) (hJ : ∀ s A B, J s A → A.grownBy B none → J s B) (hBx : ∀ p A, J p A → A.cell? ⟨B1, 0, none⟩ = some (.slice (some ⟨g, 0, none⟩) 384 cap) ∧ A.cell? ⟨B2, 0, none⟩ = some (.int .i64 64))
    (hY : ∀ pre x W1, J pre W1 → x < 6 → pre.length < 6 → YieldAt Fence.wide (n - 1) Tryd.prog l #[.slice (some ⟨g, 64 * x, none⟩) 64 64] W1 fun e W' => (e = .returned (.bool true) ∧ ¬ False ∧ J (pre ++ [x]) W' ∧ Below w0.heap.size W1 W') ∨ (e = .returned (.bool false) ∧ False ∧ Jx (pre ++ [x]) W' ∧ Below w0.heap.size W1 W'))
    (W : World) (hb0 : Below w0.heap.size w0 W) (h0 : J [] W) :
    CallsIn Fence.wide n Tryd.prog 37 #[.func (.yield l) #[] #[], .pointer (some ⟨B1, 0, none⟩), .pointer (some ⟨B2, 0, none⟩)] W fun e W' => (∃ v, e = .returned v) ∧ ((∃ ys : List Nat, ys = [0, 1, 2, 3, 4, 5] ∧ J ys W') ∨ (∃ ys : List Nat, False ∧ Jx ys W')) := by
  have HJ := Aside0.mk h0
  have HB := Aside0.mk hb0
  have HY := Aside0.mk hY
  have HG := Aside0.mk hJ
  have HX := Aside0.mk hBx
  clear h0 hb0 hY hJ hBx
  refine callsIn_of_wp Tryd.func37 rfl trivial ?_ rfl
  simp only [Tryd.ntmps37, List.size_toArray, List.length_cons, List.length_nil, Nat.reduceAdd, Nat.reduceSub, Array.replicate_succ, Array.replicate_zero, List.push_toArray, List.append_toArray, List.nil_append, List.cons_append]
  gi_wp2
  gi_loopw [4] (fun i wr => ∃ k : Nat, k ≤ 6 ∧ i = .int .i64 ((64 * k : Nat) : Int) ∧ Aside0 (J (List.range k) wr) ∧ Aside0 (Below w0.heap.size w0 wr)) (fun i _ => 384 - (intOf i).toNat)
  case atStart => exact ⟨0, Nat.zero_le _, rfl, HJ, HB⟩
  case round =>
    clear HJ HB
    obtain ⟨k, hk, rfl, HJ, HB⟩ := hrel
    obtain ⟨hc1, hc2⟩ := HX.out _ _ HJ.out
    by_cases h6 : k = 6
    case pos =>
      subst h6
      gi_wp2
      go_end0
      exact ⟨⟨_, rfl⟩, .inl ⟨_, rfl, HJ.out⟩⟩
    case neg =>
      have hk5 : k = 0 ∨ k = 1 ∨ k = 2 ∨ k = 3 ∨ k = 4 ∨ k = 5 := by omega
      clear hk h6
      rcases hk5 with rfl | rfl | rfl | rfl | rfl | rfl
      · gi_wp2
        refine wpIn_wide.2 ?_
        refine start_ (n := 7) (S := fun w' => w'.cell? ⟨B2, 0, none⟩ = some (.int .i64 64) ∧ w'.cell? ⟨B1, 0, none⟩ = some (.slice (some ⟨g, 0, none⟩) 384 cap)) (ds := []) #[false, false, false, false, false, false, false] (by kernel_rfl) rfl rfl ⟨hc2, hc1⟩ (fun hHeld => ?_)
        refine pure_ (i := 2) (N := some 15) (v := ?_) (a' := ?_) #[false, false, true, false, false, false, false] rfl rfl (by kernel_rfl) (fun _ _ _ h => h) (Or.inl ⟨by rfl, ?_⟩) ?_ ?_
        rotate_left
        · intro w'
          go_simp
          with_reducible rfl
        rotate_left
        · simp only [Act.put, List.setIfInBounds_toArray, List.set_cons_zero, List.set_cons_succ]
          rfl
        refine take_ (i := 0) (N := some 13) (v := ?_) (a' := ?_) #[true, false, true, false, false, false, false] rfl rfl (by kernel_rfl) (fun _ _ _ h => h) (Or.inl ⟨by rfl, ?_⟩) hHeld ?_ ?_
        rotate_left
        · rintro w' ⟨s0, s1⟩
          go_simp
          with_reducible rfl
        rotate_left
        · simp only [Act.put, List.setIfInBounds_toArray, List.set_cons_zero, List.set_cons_succ]
          rfl
        refine take_ (i := 1) (N := some 14) (v := ?_) (a' := ?_) #[true, true, true, false, false, false, false] rfl rfl (by kernel_rfl) (fun _ _ _ h => h) (Or.inl ⟨by rfl, ?_⟩) hHeld ?_ ?_
        rotate_left
        · rintro w' ⟨s0, s1⟩
          go_simp
          with_reducible rfl
        rotate_left
        · simp only [Act.put, List.setIfInBounds_toArray, List.set_cons_zero, List.set_cons_succ]
          rfl
        refine pure_ (i := 3) (N := some 16) (v := ?_) (a' := ?_) #[true, true, true, true, false, false, false] rfl rfl (by kernel_rfl) (fun _ _ _ h => h) (Or.inl ⟨by rfl, ?_⟩) ?_ ?_
        rotate_left
        · intro w'
          go_simp
          with_reducible rfl
        rotate_left
        · simp only [Act.put, List.setIfInBounds_toArray, List.set_cons_zero, List.set_cons_succ]
          rfl
        refine pure_ (i := 4) (N := some 17) (v := ?_) (a' := ?_) #[true, true, true, true, true, false, false] rfl rfl (by kernel_rfl) (fun _ _ _ h => h) (Or.inl ⟨by rfl, ?_⟩) ?_ ?_
        rotate_left
        · intro w'
          go_simp
          with_reducible rfl
        rotate_left
        · simp only [Act.put, List.setIfInBounds_toArray, List.set_cons_zero, List.set_cons_succ]
          rfl
        refine pure_ (i := 5) (N := some 18) (v := ?_) (a' := ?_) #[true, true, true, true, true, true, false] rfl rfl (by kernel_rfl) (fun _ _ _ h => h) (Or.inl ⟨by rfl, ?_⟩) ?_ ?_
        rotate_left
        · intro w'
          go_simp
          with_reducible rfl
        rotate_left
        · simp only [Act.put, List.setIfInBounds_toArray, List.set_cons_zero, List.set_cons_succ]
          rfl
        refine pure_ (i := 6) (N := some 5) (v := ?_) (a' := ?_) #[true, true, true, true, true, true, true] rfl rfl (by kernel_rfl) (fun _ _ _ h => h) (Or.inl ⟨by rfl, ?_⟩) ?_ ?_
        rotate_left
        · intro w'
          go_simp
          with_reducible rfl
        rotate_left
        · simp only [Act.put, List.setIfInBounds_toArray, List.set_cons_zero, List.set_cons_succ]
          rfl
        refine done_ (by kernel_rfl) ?_
        have HJ1 := HG.out _ _ _ HJ.out (ngrown_of (Below.drew (Below.refl _ _)))
        have HB1 := Below.drew HB.out
        clear hHeld
        generalize wr.drew = wd at HJ1 HB1 ⊢
        obtain ⟨hc1, hc2⟩ := HX.out _ _ HJ1
        obtain ⟨fn, tmps, assign, body, hy, hRd⟩ := HY.out (List.range 0) 0 wd HJ1 (by decide) (by decide)
        simp only [Nat.reduceMul] at hy
        gi_wp2
        refine hRd.mono ?_
        rintro e3 W3 (⟨rfl, _, hJ3, hk3⟩ | ⟨_, hf, _, _⟩)
        · obtain ⟨hc1, hc2⟩ := HX.out _ _ hJ3
          gi_wp2
          go_roundw
          case rel => exact ⟨1, by decide, by first | rfl | go_num, ⟨hJ3⟩, ⟨HB1.trans hk3⟩⟩
          case measure => simp [intOf]
        · exact hf.elim
      · gi_wp2
        refine wpIn_wide.2 ?_
        refine start_ (n := 7) (S := fun w' => w'.cell? ⟨B2, 0, none⟩ = some (.int .i64 64) ∧ w'.cell? ⟨B1, 0, none⟩ = some (.slice (some ⟨g, 0, none⟩) 384 cap)) (ds := []) #[false, false, false, false, false, false, false] (by kernel_rfl) rfl rfl ⟨hc2, hc1⟩ (fun hHeld => ?_)
        refine pure_ (i := 2) (N := some 15) (v := ?_) (a' := ?_) #[false, false, true, false, false, false, false] rfl rfl (by kernel_rfl) (fun _ _ _ h => h) (Or.inl ⟨by rfl, ?_⟩) ?_ ?_
        rotate_left
        · intro w'
          go_simp
          with_reducible rfl
        rotate_left
        · simp only [Act.put, List.setIfInBounds_toArray, List.set_cons_zero, List.set_cons_succ]
          rfl
        refine take_ (i := 0) (N := some 13) (v := ?_) (a' := ?_) #[true, false, true, false, false, false, false] rfl rfl (by kernel_rfl) (fun _ _ _ h => h) (Or.inl ⟨by rfl, ?_⟩) hHeld ?_ ?_
        rotate_left
        · rintro w' ⟨s0, s1⟩
          go_simp
          with_reducible rfl
        rotate_left
        · simp only [Act.put, List.setIfInBounds_toArray, List.set_cons_zero, List.set_cons_succ]
          rfl
        refine take_ (i := 1) (N := some 14) (v := ?_) (a' := ?_) #[true, true, true, false, false, false, false] rfl rfl (by kernel_rfl) (fun _ _ _ h => h) (Or.inl ⟨by rfl, ?_⟩) hHeld ?_ ?_
        rotate_left
        · rintro w' ⟨s0, s1⟩
          go_simp
          with_reducible rfl
        rotate_left
        · simp only [Act.put, List.setIfInBounds_toArray, List.set_cons_zero, List.set_cons_succ]
          rfl
        refine pure_ (i := 3) (N := some 16) (v := ?_) (a' := ?_) #[true, true, true, true, false, false, false] rfl rfl (by kernel_rfl) (fun _ _ _ h => h) (Or.inl ⟨by rfl, ?_⟩) ?_ ?_
        rotate_left
        · intro w'
          go_simp
          with_reducible rfl
        rotate_left
        · simp only [Act.put, List.setIfInBounds_toArray, List.set_cons_zero, List.set_cons_succ]
          rfl
        refine pure_ (i := 4) (N := some 17) (v := ?_) (a' := ?_) #[true, true, true, true, true, false, false] rfl rfl (by kernel_rfl) (fun _ _ _ h => h) (Or.inl ⟨by rfl, ?_⟩) ?_ ?_
        rotate_left
        · intro w'
          go_simp
          with_reducible rfl
        rotate_left
        · simp only [Act.put, List.setIfInBounds_toArray, List.set_cons_zero, List.set_cons_succ]
          rfl
        refine pure_ (i := 5) (N := some 18) (v := ?_) (a' := ?_) #[true, true, true, true, true, true, false] rfl rfl (by kernel_rfl) (fun _ _ _ h => h) (Or.inl ⟨by rfl, ?_⟩) ?_ ?_
        rotate_left
        · intro w'
          go_simp
          with_reducible rfl
        rotate_left
        · simp only [Act.put, List.setIfInBounds_toArray, List.set_cons_zero, List.set_cons_succ]
          rfl
        refine pure_ (i := 6) (N := some 5) (v := ?_) (a' := ?_) #[true, true, true, true, true, true, true] rfl rfl (by kernel_rfl) (fun _ _ _ h => h) (Or.inl ⟨by rfl, ?_⟩) ?_ ?_
        rotate_left
        · intro w'
          go_simp
          with_reducible rfl
        rotate_left
        · simp only [Act.put, List.setIfInBounds_toArray, List.set_cons_zero, List.set_cons_succ]
          rfl
        refine done_ (by kernel_rfl) ?_
        have HJ1 := HG.out _ _ _ HJ.out (ngrown_of (Below.drew (Below.refl _ _)))
        have HB1 := Below.drew HB.out
        clear hHeld
        generalize wr.drew = wd at HJ1 HB1 ⊢
        obtain ⟨hc1, hc2⟩ := HX.out _ _ HJ1
        obtain ⟨fn, tmps, assign, body, hy, hRd⟩ := HY.out (List.range 1) 1 wd HJ1 (by decide) (by decide)
        simp only [Nat.reduceMul] at hy
        gi_wp2
        refine hRd.mono ?_
        rintro e3 W3 (⟨rfl, _, hJ3, hk3⟩ | ⟨_, hf, _, _⟩)
        · obtain ⟨hc1, hc2⟩ := HX.out _ _ hJ3
          gi_wp2
          go_roundw
          case rel => exact ⟨2, by decide, by first | rfl | go_num, ⟨hJ3⟩, ⟨HB1.trans hk3⟩⟩
          case measure => simp [intOf]
        · exact hf.elim
      · gi_wp2
        refine wpIn_wide.2 ?_
        refine start_ (n := 7) (S := fun w' => w'.cell? ⟨B2, 0, none⟩ = some (.int .i64 64) ∧ w'.cell? ⟨B1, 0, none⟩ = some (.slice (some ⟨g, 0, none⟩) 384 cap)) (ds := []) #[false, false, false, false, false, false, false] (by kernel_rfl) rfl rfl ⟨hc2, hc1⟩ (fun hHeld => ?_)
        refine pure_ (i := 2) (N := some 15) (v := ?_) (a' := ?_) #[false, false, true, false, false, false, false] rfl rfl (by kernel_rfl) (fun _ _ _ h => h) (Or.inl ⟨by rfl, ?_⟩) ?_ ?_
        rotate_left
        · intro w'
          go_simp
          with_reducible rfl
        rotate_left
        · simp only [Act.put, List.setIfInBounds_toArray, List.set_cons_zero, List.set_cons_succ]
          rfl
        refine take_ (i := 0) (N := some 13) (v := ?_) (a' := ?_) #[true, false, true, false, false, false, false] rfl rfl (by kernel_rfl) (fun _ _ _ h => h) (Or.inl ⟨by rfl, ?_⟩) hHeld ?_ ?_
        rotate_left
        · rintro w' ⟨s0, s1⟩
          go_simp
          with_reducible rfl
        rotate_left
        · simp only [Act.put, List.setIfInBounds_toArray, List.set_cons_zero, List.set_cons_succ]
          rfl
        refine take_ (i := 1) (N := some 14) (v := ?_) (a' := ?_) #[true, true, true, false, false, false, false] rfl rfl (by kernel_rfl) (fun _ _ _ h => h) (Or.inl ⟨by rfl, ?_⟩) hHeld ?_ ?_
        rotate_left
        · rintro w' ⟨s0, s1⟩
          go_simp
          with_reducible rfl
        rotate_left
        · simp only [Act.put, List.setIfInBounds_toArray, List.set_cons_zero, List.set_cons_succ]
          rfl
        refine pure_ (i := 3) (N := some 16) (v := ?_) (a' := ?_) #[true, true, true, true, false, false, false] rfl rfl (by kernel_rfl) (fun _ _ _ h => h) (Or.inl ⟨by rfl, ?_⟩) ?_ ?_
        rotate_left
        · intro w'
          go_simp
          with_reducible rfl
        rotate_left
        · simp only [Act.put, List.setIfInBounds_toArray, List.set_cons_zero, List.set_cons_succ]
          rfl
        refine pure_ (i := 4) (N := some 17) (v := ?_) (a' := ?_) #[true, true, true, true, true, false, false] rfl rfl (by kernel_rfl) (fun _ _ _ h => h) (Or.inl ⟨by rfl, ?_⟩) ?_ ?_
        rotate_left
        · intro w'
          go_simp
          with_reducible rfl
        rotate_left
        · simp only [Act.put, List.setIfInBounds_toArray, List.set_cons_zero, List.set_cons_succ]
          rfl
        refine pure_ (i := 5) (N := some 18) (v := ?_) (a' := ?_) #[true, true, true, true, true, true, false] rfl rfl (by kernel_rfl) (fun _ _ _ h => h) (Or.inl ⟨by rfl, ?_⟩) ?_ ?_
        rotate_left
        · intro w'
          go_simp
          with_reducible rfl
        rotate_left
        · simp only [Act.put, List.setIfInBounds_toArray, List.set_cons_zero, List.set_cons_succ]
          rfl
        refine pure_ (i := 6) (N := some 5) (v := ?_) (a' := ?_) #[true, true, true, true, true, true, true] rfl rfl (by kernel_rfl) (fun _ _ _ h => h) (Or.inl ⟨by rfl, ?_⟩) ?_ ?_
        rotate_left
        · intro w'
          go_simp
          with_reducible rfl
        rotate_left
        · simp only [Act.put, List.setIfInBounds_toArray, List.set_cons_zero, List.set_cons_succ]
          rfl
        refine done_ (by kernel_rfl) ?_
        have HJ1 := HG.out _ _ _ HJ.out (ngrown_of (Below.drew (Below.refl _ _)))
        have HB1 := Below.drew HB.out
        clear hHeld
        generalize wr.drew = wd at HJ1 HB1 ⊢
        obtain ⟨hc1, hc2⟩ := HX.out _ _ HJ1
        obtain ⟨fn, tmps, assign, body, hy, hRd⟩ := HY.out (List.range 2) 2 wd HJ1 (by decide) (by decide)
        simp only [Nat.reduceMul] at hy
        gi_wp2
        refine hRd.mono ?_
        rintro e3 W3 (⟨rfl, _, hJ3, hk3⟩ | ⟨_, hf, _, _⟩)
        · obtain ⟨hc1, hc2⟩ := HX.out _ _ hJ3
          gi_wp2
          go_roundw
          case rel => exact ⟨3, by decide, by first | rfl | go_num, ⟨hJ3⟩, ⟨HB1.trans hk3⟩⟩
          case measure => simp [intOf]
        · exact hf.elim
      · gi_wp2
        refine wpIn_wide.2 ?_
        refine start_ (n := 7) (S := fun w' => w'.cell? ⟨B2, 0, none⟩ = some (.int .i64 64) ∧ w'.cell? ⟨B1, 0, none⟩ = some (.slice (some ⟨g, 0, none⟩) 384 cap)) (ds := []) #[false, false, false, false, false, false, false] (by kernel_rfl) rfl rfl ⟨hc2, hc1⟩ (fun hHeld => ?_)
        refine pure_ (i := 2) (N := some 15) (v := ?_) (a' := ?_) #[false, false, true, false, false, false, false] rfl rfl (by kernel_rfl) (fun _ _ _ h => h) (Or.inl ⟨by rfl, ?_⟩) ?_ ?_
        rotate_left
        · intro w'
          go_simp
          with_reducible rfl
        rotate_left
        · simp only [Act.put, List.setIfInBounds_toArray, List.set_cons_zero, List.set_cons_succ]
          rfl
        refine take_ (i := 0) (N := some 13) (v := ?_) (a' := ?_) #[true, false, true, false, false, false, false] rfl rfl (by kernel_rfl) (fun _ _ _ h => h) (Or.inl ⟨by rfl, ?_⟩) hHeld ?_ ?_
        rotate_left
        · rintro w' ⟨s0, s1⟩
          go_simp
          with_reducible rfl
        rotate_left
        · simp only [Act.put, List.setIfInBounds_toArray, List.set_cons_zero, List.set_cons_succ]
          rfl
        refine take_ (i := 1) (N := some 14) (v := ?_) (a' := ?_) #[true, true, true, false, false, false, false] rfl rfl (by kernel_rfl) (fun _ _ _ h => h) (Or.inl ⟨by rfl, ?_⟩) hHeld ?_ ?_
        rotate_left
        · rintro w' ⟨s0, s1⟩
          go_simp
          with_reducible rfl
        rotate_left
        · simp only [Act.put, List.setIfInBounds_toArray, List.set_cons_zero, List.set_cons_succ]
          rfl
        refine pure_ (i := 3) (N := some 16) (v := ?_) (a' := ?_) #[true, true, true, true, false, false, false] rfl rfl (by kernel_rfl) (fun _ _ _ h => h) (Or.inl ⟨by rfl, ?_⟩) ?_ ?_
        rotate_left
        · intro w'
          go_simp
          with_reducible rfl
        rotate_left
        · simp only [Act.put, List.setIfInBounds_toArray, List.set_cons_zero, List.set_cons_succ]
          rfl
        refine pure_ (i := 4) (N := some 17) (v := ?_) (a' := ?_) #[true, true, true, true, true, false, false] rfl rfl (by kernel_rfl) (fun _ _ _ h => h) (Or.inl ⟨by rfl, ?_⟩) ?_ ?_
        rotate_left
        · intro w'
          go_simp
          with_reducible rfl
        rotate_left
        · simp only [Act.put, List.setIfInBounds_toArray, List.set_cons_zero, List.set_cons_succ]
          rfl
        refine pure_ (i := 5) (N := some 18) (v := ?_) (a' := ?_) #[true, true, true, true, true, true, false] rfl rfl (by kernel_rfl) (fun _ _ _ h => h) (Or.inl ⟨by rfl, ?_⟩) ?_ ?_
        rotate_left
        · intro w'
          go_simp
          with_reducible rfl
        rotate_left
        · simp only [Act.put, List.setIfInBounds_toArray, List.set_cons_zero, List.set_cons_succ]
          rfl
        refine pure_ (i := 6) (N := some 5) (v := ?_) (a' := ?_) #[true, true, true, true, true, true, true] rfl rfl (by kernel_rfl) (fun _ _ _ h => h) (Or.inl ⟨by rfl, ?_⟩) ?_ ?_
        rotate_left
        · intro w'
          go_simp
          with_reducible rfl
        rotate_left
        · simp only [Act.put, List.setIfInBounds_toArray, List.set_cons_zero, List.set_cons_succ]
          rfl
        refine done_ (by kernel_rfl) ?_
        have HJ1 := HG.out _ _ _ HJ.out (ngrown_of (Below.drew (Below.refl _ _)))
        have HB1 := Below.drew HB.out
        clear hHeld
        generalize wr.drew = wd at HJ1 HB1 ⊢
        obtain ⟨hc1, hc2⟩ := HX.out _ _ HJ1
        obtain ⟨fn, tmps, assign, body, hy, hRd⟩ := HY.out (List.range 3) 3 wd HJ1 (by decide) (by decide)
        simp only [Nat.reduceMul] at hy
        gi_wp2
        refine hRd.mono ?_
        rintro e3 W3 (⟨rfl, _, hJ3, hk3⟩ | ⟨_, hf, _, _⟩)
        · obtain ⟨hc1, hc2⟩ := HX.out _ _ hJ3
          gi_wp2
          go_roundw
          case rel => exact ⟨4, by decide, by first | rfl | go_num, ⟨hJ3⟩, ⟨HB1.trans hk3⟩⟩
          case measure => simp [intOf]
        · exact hf.elim
      · gi_wp2
        refine wpIn_wide.2 ?_
        refine start_ (n := 7) (S := fun w' => w'.cell? ⟨B2, 0, none⟩ = some (.int .i64 64) ∧ w'.cell? ⟨B1, 0, none⟩ = some (.slice (some ⟨g, 0, none⟩) 384 cap)) (ds := []) #[false, false, false, false, false, false, false] (by kernel_rfl) rfl rfl ⟨hc2, hc1⟩ (fun hHeld => ?_)
        refine pure_ (i := 2) (N := some 15) (v := ?_) (a' := ?_) #[false, false, true, false, false, false, false] rfl rfl (by kernel_rfl) (fun _ _ _ h => h) (Or.inl ⟨by rfl, ?_⟩) ?_ ?_
        rotate_left
        · intro w'
          go_simp
          with_reducible rfl
        rotate_left
        · simp only [Act.put, List.setIfInBounds_toArray, List.set_cons_zero, List.set_cons_succ]
          rfl
        refine take_ (i := 0) (N := some 13) (v := ?_) (a' := ?_) #[true, false, true, false, false, false, false] rfl rfl (by kernel_rfl) (fun _ _ _ h => h) (Or.inl ⟨by rfl, ?_⟩) hHeld ?_ ?_
        rotate_left
        · rintro w' ⟨s0, s1⟩
          go_simp
          with_reducible rfl
        rotate_left
        · simp only [Act.put, List.setIfInBounds_toArray, List.set_cons_zero, List.set_cons_succ]
          rfl
        refine take_ (i := 1) (N := some 14) (v := ?_) (a' := ?_) #[true, true, true, false, false, false, false] rfl rfl (by kernel_rfl) (fun _ _ _ h => h) (Or.inl ⟨by rfl, ?_⟩) hHeld ?_ ?_
        rotate_left
        · rintro w' ⟨s0, s1⟩
          go_simp
          with_reducible rfl
        rotate_left
        · simp only [Act.put, List.setIfInBounds_toArray, List.set_cons_zero, List.set_cons_succ]
          rfl
        refine pure_ (i := 3) (N := some 16) (v := ?_) (a' := ?_) #[true, true, true, true, false, false, false] rfl rfl (by kernel_rfl) (fun _ _ _ h => h) (Or.inl ⟨by rfl, ?_⟩) ?_ ?_
        rotate_left
        · intro w'
          go_simp
          with_reducible rfl
        rotate_left
        · simp only [Act.put, List.setIfInBounds_toArray, List.set_cons_zero, List.set_cons_succ]
          rfl
        refine pure_ (i := 4) (N := some 17) (v := ?_) (a' := ?_) #[true, true, true, true, true, false, false] rfl rfl (by kernel_rfl) (fun _ _ _ h => h) (Or.inl ⟨by rfl, ?_⟩) ?_ ?_
        rotate_left
        · intro w'
          go_simp
          with_reducible rfl
        rotate_left
        · simp only [Act.put, List.setIfInBounds_toArray, List.set_cons_zero, List.set_cons_succ]
          rfl
        refine pure_ (i := 5) (N := some 18) (v := ?_) (a' := ?_) #[true, true, true, true, true, true, false] rfl rfl (by kernel_rfl) (fun _ _ _ h => h) (Or.inl ⟨by rfl, ?_⟩) ?_ ?_
        rotate_left
        · intro w'
          go_simp
          with_reducible rfl
        rotate_left
        · simp only [Act.put, List.setIfInBounds_toArray, List.set_cons_zero, List.set_cons_succ]
          rfl
        refine pure_ (i := 6) (N := some 5) (v := ?_) (a' := ?_) #[true, true, true, true, true, true, true] rfl rfl (by kernel_rfl) (fun _ _ _ h => h) (Or.inl ⟨by rfl, ?_⟩) ?_ ?_
        rotate_left
        · intro w'
          go_simp
          with_reducible rfl
        rotate_left
        · simp only [Act.put, List.setIfInBounds_toArray, List.set_cons_zero, List.set_cons_succ]
          rfl
        refine done_ (by kernel_rfl) ?_
        have HJ1 := HG.out _ _ _ HJ.out (ngrown_of (Below.drew (Below.refl _ _)))
        have HB1 := Below.drew HB.out
        clear hHeld
        generalize wr.drew = wd at HJ1 HB1 ⊢
        obtain ⟨hc1, hc2⟩ := HX.out _ _ HJ1
        obtain ⟨fn, tmps, assign, body, hy, hRd⟩ := HY.out (List.range 4) 4 wd HJ1 (by decide) (by decide)
        simp only [Nat.reduceMul] at hy
        gi_wp2
        refine hRd.mono ?_
        rintro e3 W3 (⟨rfl, _, hJ3, hk3⟩ | ⟨_, hf, _, _⟩)
        · obtain ⟨hc1, hc2⟩ := HX.out _ _ hJ3
          gi_wp2
          go_roundw
          case rel => exact ⟨5, by decide, by first | rfl | go_num, ⟨hJ3⟩, ⟨HB1.trans hk3⟩⟩
          case measure => simp [intOf]
        · exact hf.elim
      · gi_wp2
        refine wpIn_wide.2 ?_
        refine start_ (n := 7) (S := fun w' => w'.cell? ⟨B2, 0, none⟩ = some (.int .i64 64) ∧ w'.cell? ⟨B1, 0, none⟩ = some (.slice (some ⟨g, 0, none⟩) 384 cap)) (ds := []) #[false, false, false, false, false, false, false] (by kernel_rfl) rfl rfl ⟨hc2, hc1⟩ (fun hHeld => ?_)
        refine pure_ (i := 2) (N := some 15) (v := ?_) (a' := ?_) #[false, false, true, false, false, false, false] rfl rfl (by kernel_rfl) (fun _ _ _ h => h) (Or.inl ⟨by rfl, ?_⟩) ?_ ?_
        rotate_left
        · intro w'
          go_simp
          with_reducible rfl
        rotate_left
        · simp only [Act.put, List.setIfInBounds_toArray, List.set_cons_zero, List.set_cons_succ]
          rfl
        refine take_ (i := 0) (N := some 13) (v := ?_) (a' := ?_) #[true, false, true, false, false, false, false] rfl rfl (by kernel_rfl) (fun _ _ _ h => h) (Or.inl ⟨by rfl, ?_⟩) hHeld ?_ ?_
        rotate_left
        · rintro w' ⟨s0, s1⟩
          go_simp
          with_reducible rfl
        rotate_left
        · simp only [Act.put, List.setIfInBounds_toArray, List.set_cons_zero, List.set_cons_succ]
          rfl
        refine take_ (i := 1) (N := some 14) (v := ?_) (a' := ?_) #[true, true, true, false, false, false, false] rfl rfl (by kernel_rfl) (fun _ _ _ h => h) (Or.inl ⟨by rfl, ?_⟩) hHeld ?_ ?_
        rotate_left
        · rintro w' ⟨s0, s1⟩
          go_simp
          with_reducible rfl
        rotate_left
        · simp only [Act.put, List.setIfInBounds_toArray, List.set_cons_zero, List.set_cons_succ]
          rfl
        refine pure_ (i := 3) (N := some 16) (v := ?_) (a' := ?_) #[true, true, true, true, false, false, false] rfl rfl (by kernel_rfl) (fun _ _ _ h => h) (Or.inl ⟨by rfl, ?_⟩) ?_ ?_
        rotate_left
        · intro w'
          go_simp
          with_reducible rfl
        rotate_left
        · simp only [Act.put, List.setIfInBounds_toArray, List.set_cons_zero, List.set_cons_succ]
          rfl
        refine pure_ (i := 4) (N := some 17) (v := ?_) (a' := ?_) #[true, true, true, true, true, false, false] rfl rfl (by kernel_rfl) (fun _ _ _ h => h) (Or.inl ⟨by rfl, ?_⟩) ?_ ?_
        rotate_left
        · intro w'
          go_simp
          with_reducible rfl
        rotate_left
        · simp only [Act.put, List.setIfInBounds_toArray, List.set_cons_zero, List.set_cons_succ]
          rfl
        refine pure_ (i := 5) (N := some 18) (v := ?_) (a' := ?_) #[true, true, true, true, true, true, false] rfl rfl (by kernel_rfl) (fun _ _ _ h => h) (Or.inl ⟨by rfl, ?_⟩) ?_ ?_
        rotate_left
        · intro w'
          go_simp
          with_reducible rfl
        rotate_left
        · simp only [Act.put, List.setIfInBounds_toArray, List.set_cons_zero, List.set_cons_succ]
          rfl
        refine pure_ (i := 6) (N := some 5) (v := ?_) (a' := ?_) #[true, true, true, true, true, true, true] rfl rfl (by kernel_rfl) (fun _ _ _ h => h) (Or.inl ⟨by rfl, ?_⟩) ?_ ?_
        rotate_left
        · intro w'
          go_simp
          with_reducible rfl
        rotate_left
        · simp only [Act.put, List.setIfInBounds_toArray, List.set_cons_zero, List.set_cons_succ]
          rfl
        refine done_ (by kernel_rfl) ?_
        have HJ1 := HG.out _ _ _ HJ.out (ngrown_of (Below.drew (Below.refl _ _)))
        have HB1 := Below.drew HB.out
        clear hHeld
        generalize wr.drew = wd at HJ1 HB1 ⊢
        obtain ⟨hc1, hc2⟩ := HX.out _ _ HJ1
        obtain ⟨fn, tmps, assign, body, hy, hRd⟩ := HY.out (List.range 5) 5 wd HJ1 (by decide) (by decide)
        simp only [Nat.reduceMul] at hy
        gi_wp2
        refine hRd.mono ?_
        rintro e3 W3 (⟨rfl, _, hJ3, hk3⟩ | ⟨_, hf, _, _⟩)
        · obtain ⟨hc1, hc2⟩ := HX.out _ _ hJ3
          gi_wp2
          go_roundw
          case rel => exact ⟨6, by decide, by first | rfl | go_num, ⟨hJ3⟩, ⟨HB1.trans hk3⟩⟩
          case measure => simp [intOf]
        · exact hf.elim
end Go.Proofs.YtdcfonmjbelgbaaDoor
end
section
namespace Go.Proofs.YtdcfonmjbelgbaaDoor
open Go.RowKit
section
variable {P : Program}
theorem zeros_cells (m : Nat) : Builtin.zeroCells (Value.int .u8 0).cells m = (Lib.byteCells (List.replicate m 0)).toArray := by
  apply Array.ext'
  simp [Builtin.zeroCells, Lib.byteCells, Value.cells]
  apply List.ext_getElem
  · simp
  · intro i h1 h2
    simp [Nat.mod_one]
theorem run_append_zerosB (w : World) (B : Nat) (t ti ty E : TypeId) (i : TypeInfo) (ht : P.underlying t = some (.slice E)) {k : IntKind} (hti : P.underlying ti = some (.int k)) (hi : P.info? E = some i) (hz : i.zero = some (.int .u8 0)) (hsize : i.size = 1) (hby : i.bytes = 1)
    (g cap : Nat) (l : List UInt8) (hown : RowB B E (.slice (some ⟨g, 0, none⟩) l.length cap) l w) (kx : IntKind) (m : Nat)
    (hlen : l.length + m ≤ 140737488355328) (hbase : B ≤ w.heap.size) :
    ∃ v' w', (Builtin.append_ #[t, ti] ty #[.slice (some ⟨g, 0, none⟩) l.length cap, .int kx m]).run P w = .ok v' w' ∧ RowB B E v' (l ++ List.replicate m 0) w' ∧ w.grownBy w' (some g) := by
  have hm63 : l.length + m ≤ maxLen := by unfold maxLen; omega
  have hw : IntKind.i64.wrap (m : Int) = m := by rw [IntKind.wrap_i64]; omega
  have hw0 : IntKind.i64.wrap 0 = 0 := by rw [IntKind.wrap_i64]; rfl
  have hneg : ¬ ((m : Int) < 0) := by omega
  have hbig : ¬ (281474976710656 < (m : Int) * (i.bytes : Int)) := by rw [hby]; omega
  rcases hown with ⟨h0, _⟩ | ⟨g2, cap2, cur, fz, hv, hbg, hg, hfz, hnc, hcm, hcs, htake⟩
  · cases h0
  obtain ⟨rfl, rfl⟩ : g = g2 ∧ cap = cap2 := by
    injection hv with e1 e2 e3
    injection e1 with e1
    injection e1 with e1
    exact ⟨e1, e3⟩
  obtain ⟨news, hnews⟩ : ∃ news, news = Lib.byteCells (List.replicate m 0) := ⟨_, rfl⟩
  have hl : news.length = m := by rw [hnews, Lib.byteCells_length, List.length_replicate]
  have hna : Builtin.zeroCells (Value.int .u8 0).cells m = news.toArray := by rw [zeros_cells, hnews]
  have h1 : ∀ u ∈ news, u.oneCell' = true := by rw [hnews]; exact byteCells_one _
  by_cases hroom : l.length + m ≤ cap
  · have hst := run_storeCells_free (P := P) g E fz news (l.length * 1) 0 cur w hg (fun k hk1 hk2 => hfz k (by omega) (by omega)) (by omega) h1
    simp only [Nat.add_zero, Nat.mul_one] at hst
    have hr : (Builtin.append_ #[t, ti] ty #[.slice (some ⟨g, 0, none⟩) l.length cap, .int kx m]).run P w = .ok (.slice (some ⟨g, 0, none⟩) (l.length + m) cap) (w.setRow g (cur.toList.take l.length ++ news ++ cur.toList.drop (l.length + news.length)).toArray) := by
      by_cases hm : m = 0
      · subst hm
        have hnl : news = [] := List.eq_nil_of_length_eq_zero hl
        subst hnl
        simp only [List.length_nil, Nat.add_zero] at hst
        simp [Builtin.append_, run_underlying ht, run_underlying hti, sizeOf, typeInfo, hi, asInt, asIntOf, hw0, hnc, hst, hsize, Addr.add_lit]
      · simp [Builtin.append_, run_underlying ht, run_underlying hti, sizeOf, typeInfo, zeroValue, hi, hz, asInt, asIntOf, hw, hneg, hbig, hroom, hna, Addr.add_lit, hst, hsize, hm]
    refine ⟨_, _, hr, .inr ⟨g, cap, _, fz, by rw [List.length_append, List.length_replicate], hbg, setRow_heap w g cur _ E _ hg, fun k hk1 hk2 => hfz k (by rw [List.length_append] at hk1; omega) hk2, by rw [List.length_append, List.length_replicate]; exact hroom, hcm, ?_, ?_⟩, ⟨rfl, rfl, rfl, by simp, fun k _ hk => setRow_other w g k _ (fun e => hk (by rw [e]))⟩⟩
    · simp only [List.size_toArray, List.length_append, List.length_take, List.length_drop, Array.length_toList]
      omega
    · rw [htake, hnews, Lib.byteCells_append]
      have : (l ++ List.replicate m 0).length = (Lib.byteCells l ++ Lib.byteCells (List.replicate m 0)).length := by simp [Lib.byteCells_length]
      rw [this]
      exact List.take_left
  · have hm : ¬ m = 0 := by omega
    have holds : ∀ j u, (Lib.byteCells l)[j]? = some u → w.drew.cell? ((⟨g, 0, none⟩ : Addr).add j) = some u := by
      intro j u hj
      simp only [Lib.byteCells, List.getElem?_map, Option.map_eq_some_iff] at hj
      obtain ⟨x, hx, rfl⟩ := hj
      have hadd : (⟨g, 0, none⟩ : Addr).add j = ⟨g, j, none⟩ := by unfold Addr.add; split <;> simp_all
      rw [hadd]
      exact RowB.cells (B := B) (E := E) (v := .slice (some ⟨g, 0, none⟩) l.length cap) (.inr ⟨g, cap, cur, fz, rfl, hbg, hg, hfz, hnc, hcm, hcs, htake⟩) rfl j x hx
    have hfo := run_firstCells_some (P := P) w.drew 1 l.length ⟨g, 0, none⟩ l.length cap (Lib.byteCells l) (by rw [Lib.byteCells_length, Nat.mul_one]) holds
    have hn : ¬ (l.length + m ≤ cap) := hroom
    have h63' : ¬ (9223372036854775807 < ((l.length : Int) + (m : Int))) := by omega
    have hfit := growslice_fits (need := l.length + m) (old := cap) (bytes := i.bytes) (by omega) (by rw [hby]; omega)
    have h48' : ¬ (281474976710656 < Builtin.nextslicecap (l.length + m) cap * i.bytes) := by omega
    have hr : (Builtin.append_ #[t, ti] ty #[.slice (some ⟨g, 0, none⟩) l.length cap, .int kx m]).run P w = .ok (.slice (some ⟨w.heap.size, 0, none⟩) (l.length + m) (grownCap w (l.length + m) cap E)) (w.drew.alloc (.cells ((Lib.byteCells l).toArray ++ news.toArray ++ Builtin.zeroCells (Value.int .u8 0).cells (grownCap w (l.length + m) cap E - (l.length + m))) E)) := by
      simp [Builtin.append_, run_underlying ht, run_underlying hti, sizeOf, typeInfo, zeroValue, hi, hz, asInt, asIntOf, hw, hneg, hbig, hn, h63', h48', Question.forced, hfo, newRow, grownCap, hm, hna, hsize]
      congr 2
      apply Array.ext'
      simp [List.append_assoc]
    have hge := grownCap_ge w (l.length + m) cap E
    have hcm2 : grownCap w (l.length + m) cap E ≤ maxLen := grownCap_le_maxLen w (l.length + m) cap E hm63
    refine ⟨_, _, hr, .inr ⟨w.heap.size, _, _, (0, 0), by rw [List.length_append, List.length_replicate], hbase, heap_alloc_new w.drew _, fun _ _ _ _ => by omega, by rw [List.length_append, List.length_replicate]; exact hge, hcm2, ?_, ?_⟩, ⟨rfl, rfl, rfl, by simp, fun k hk _ => Lib.alloc_old w.drew _ k hk⟩⟩
    · simp only [Array.size_append, List.size_toArray, size_zeroCells, Lib.byteCells_length, hl]
      have : (Value.int IntKind.u8 0).cells.size = 1 := rfl
      rw [this]
      omega
    · simp only [Array.toList_append, List.append_assoc]
      rw [hnews, ← List.append_assoc, ← Lib.byteCells_append]
      have : (l ++ List.replicate m 0).length = (Lib.byteCells (l ++ List.replicate m 0)).length := by rw [Lib.byteCells_length]
      rw [this]
      exact List.take_left
end
end Go.Proofs.YtdcfonmjbelgbaaDoor
end
section
namespace Go.Proofs.YtdcfonmjbelgbaaDoor
open Go.RowKit Q Go.Proofs.YtdcfonmjbelgbaaDoorW.PrintWords Go.Proofs.YtdcfonmjbelgbaaDoorW.PrintLast Go.Proofs.YtdcfonmjbelgbaaDoorW.PrintMore
attribute [local go_sem] Oper.semAt_some
section
variable {F : Fence} {n : Nat} {P : Program} {ops : Array Oper} {rest : List Oper} {o : Oper} {a : Act} {Q : Exit → Act → World → Prop} {W : World}
theorem nwpListIn_append (hgd : o.guard = none) (s x : Operand) (t u : TypeId) (hop : o.op = .call { callee := .builtin .append, args := #[s, x], argTypes := #[t, u] }) (v y v1 : Value) (w1 : World) (hs : a.eval s = v) (hx : a.eval x = y)
    (hrun : (Builtin.append_ #[t, u] o.type #[v, y]).run P W = .ok v1 w1) (h : wpListIn F n P ops Q rest (a.put o.dst v1) w1) : wpListIn F n P ops Q (o :: rest) a W := by
  refine wpListIn_plain hgd fun K hK => ?_
  unfold Oper.wpIn
  refine ⟨?_, ?_⟩
  · simp [Oper.about, hop, resolve, Target.leads, Sem.run_pure]
  · rw [Oper.semAt_plain F _ _ (by rw [hop]; intro c hc'; cases hc')]
    simp [execOp, hop, resolve, invoke, builtin, hs, hx, hrun, Result.andThen]
    exact hK _ _ h
theorem nappend_str (hgd : o.guard = none) (s x : Operand) (t e : TypeId) (hop : o.op = .call { callee := .builtin .append, args := #[s, x], argTypes := #[t, t] }) (hu : P.underlying t = some (.slice e)) (hi : (P.info? e).map (fun i => (i.zero, i.size, i.bytes)) = some (some (.string ⟨#[]⟩), 1, 16))
    (base : Nat) (v : Value) (L : List ByteArray) (hs : a.eval s = v) (p : ByteArray) (hx : a.eval x = .slice (some ⟨W.heap.size, 0, none⟩) 1 1) (HO : Kd.R Kd.string e W base (fun k => base ≤ k) v L) (hbase : base ≤ W.heap.size) (hl : (L.length + 1) * 16 ≤ 140737488355328)
    (h : ∀ v1 w1, Kd.R Kd.string e w1 base (fun k => base ≤ k) v1 (L ++ [p]) → W.grownBy w1 v.ownBlock → wpListIn F n P ops Q rest (a.put o.dst v1) w1) : wpListIn F n P ops Q (o :: rest) a (W.alloc (.cells #[.string p] e)) := by
  obtain ⟨i0, hi0, hzz⟩ := Option.map_eq_some_iff.1 hi
  simp only [Prod.mk.injEq] at hzz
  obtain ⟨hz0, hz1, hz2⟩ := hzz
  have hown := Kd.own_of_R (h1 := fun _ => rfl) HO
  refine wpListIn_append_own (W.alloc (.cells #[.string p] e)) hgd s x t hop base e i0 (.string ⟨#[]⟩) 1 16 hu hi0 hz0 hz1 hz2 rfl (by decide) v L.length (encs Value.string L) hs (hown.alloc _) ⟨W.heap.size, 0, none⟩ 1 1 [.string p] hx rfl
    (by
      intro j u hj
      match j, hj with
      | 0, hj =>
        cases hj
        exact (Blk.new W #[.string p] e).cell (i := 0) rfl) (fun u hu => by simp only [List.mem_singleton] at hu; subst hu; rfl) (by simp only [maxLen]; omega) hl (by simp; omega) ?_
  intro v' w' r1 r2 _
  have r1' : w'.ownsRow base e 1 v' (L ++ [p]).length (encs Value.string (L ++ [p])) := by
    rw [List.length_append, encs_append]
    exact r1
  exact h v' w' (Kd.R_of_own r1' (fun k hk => own_base r1' k hk)) (World.grownBy.trans (World.grownBy_alloc W _ v.ownBlock) r2)
end
def padN (s : List UInt8) : List UInt8 := s ++ List.replicate (384 - s.length) 0
def partN (s : List UInt8) (i : Nat) : ByteArray := B (((padN s).drop (64 * i)).take 64)
def shR (s : List UInt8) : List ByteArray × Int := if 384 < s.length then ([], 12) else ([0, 1, 2, 3, 4, 5].map (partN s), 0)
theorem padN_len (s : List UInt8) (h : s.length ≤ 384) : (padN s).length = 384 := by
  unfold padN
  rw [List.length_append, List.length_replicate]
  omega
theorem ninfoS : (Tryd.prog.info? 9).map (fun i => (i.zero, i.size, i.bytes)) = some (some (.string ⟨#[]⟩), 1, 16) := by kernel_rfl
theorem ninfoU0 : (Tryd.prog.info? 5).map (fun i => (i.zero, i.size, i.bytes)) = some (some (.int .u8 0), 1, 1) := by kernel_rfl
theorem ninfoU : ∃ i, Tryd.prog.info? 5 = some i ∧ i.zero = some (.int .u8 0) ∧ i.size = 1 ∧ i.bytes = 1 := by
  obtain ⟨i0, hi0, hzz⟩ := Option.map_eq_some_iff.1 ninfoU0
  simp only [Prod.mk.injEq] at hzz
  exact ⟨i0, hi0, hzz⟩
structure Sh (BL B1 B2 g cap : Nat) (s : List UInt8) (w0 : World) (v : Value) (L : List ByteArray) (W : World) : Prop where
  bl : Boxed W BL 30 v
  b1 : Boxed W B1 70 (.slice (some ⟨g, 0, none⟩) 384 cap)
  b2 : Boxed W B2 3 (.int .i64 64)
  ro : RowB w0.heap.size 5 (.slice (some ⟨g, 0, none⟩) (padN s).length cap) (padN s) W
  ol : Kd.R Kd.string 9 W w0.heap.size (fun k => w0.heap.size ≤ k) v L
  bw : Below w0.heap.size w0 W
  gL : w0.heap.size ≤ BL
theorem rowB_typed {B : Nat} {E : TypeId} {v : Value} {l : List UInt8} {W : World} (h : RowB B E v l W) : ∀ k, v.ownBlock = some k → ∃ cells fz, W.heap[k]? = some (.cells cells E fz) := by
  intro k hk
  rcases h with ⟨rfl, _⟩ | ⟨g, cap, cur, fz, rfl, _, hg, _⟩
  · cases hk
  · injection hk with hk
    exact ⟨cur, fz, by rw [← hk]; exact hg⟩
section
variable {BL B1 B2 g cap : Nat} {s : List UInt8} {w0 W W1 : World} {v : Value} {L : List ByteArray}
theorem Sh.below (h : Sh BL B1 B2 g cap s w0 v L W) (b : Below W.heap.size W W1) : Sh BL B1 B2 g cap s w0 v L W1 :=
  have hg := ngrown_below b none
  { h with
    bl := h.bl.kept hg (by simp)
    b1 := h.b1.kept hg (by simp)
    b2 := h.b2.kept hg (by simp)
    ro := h.ro.below b
    ol := Kd.R_below h.ol b
    bw := below2 h.bw h.bw.size b }
theorem Sh.calm (h : Sh BL B1 B2 g cap s w0 v L W) {row : Option Nat} (hg : W.grownBy W1 row) (hr : ∀ r, row = some r → w0.heap.size ≤ r ∧ ∃ o : Obj, W.heap[r]? = some o ∧ o.isCells = false) : Sh BL B1 B2 g cap s w0 v L W1 :=
  have hr2 := fun r e => (hr r e).2
  { h with
    bl := nblk_calm h.bl hg hr2
    b1 := nblk_calm h.b1 hg hr2
    b2 := nblk_calm h.b2 hg hr2
    ro := h.ro.grown hg (fun k hk e => by
      obtain ⟨cells, fz, hc⟩ := rowB_typed h.ro k hk
      obtain ⟨o, ho, hn⟩ := hr2 k e.symm
      rw [hc] at ho
      cases ho
      cases hn)
    ol := nR_calm h.ol hg hr2
    bw := h.bw.grown hg h.bw.size (fun k e => (hr k e).1) }
theorem Sh.put (h : Sh BL B1 B2 g cap s w0 v L W) {y : Value} {p : ByteArray} (hR : Kd.R Kd.string 9 W1 w0.heap.size (fun k => w0.heap.size ≤ k) y (L ++ [p])) (hg : W.grownBy W1 v.ownBlock) : Sh BL B1 B2 g cap s w0 y (L ++ [p]) (W1.setCell ⟨BL, 0, none⟩ y) :=
  have hr : ∀ k, v.ownBlock = some k → ∃ cells, W.heap[k]? = some (.cells cells 9 (0, 0)) := fun k e => Kd.R_typed h.ol k e
  have hbl := nbox_step h.bl hg _ hr (by decide)
  have g2 := ngrown_set W1 BL 0 y
  have q2 : ∀ k, some BL = some k → ∃ cells, W1.heap[k]? = some (.cells cells 30 (0, 0)) := fun k e => by injection e with e; subst e; exact ⟨_, hbl⟩
  have h1 : RowB w0.heap.size 5 (.slice (some ⟨g, 0, none⟩) (padN s).length cap) (padN s) W1 := h.ro.grown hg (fun k hk e => by
      obtain ⟨cells, fz, hc⟩ := rowB_typed h.ro k hk
      obtain ⟨c2, hc2⟩ := hr k e.symm
      rw [hc] at hc2
      injection hc2 with hc2
      injection hc2 with _ hc2
      exact absurd hc2 (by decide))
  { h with
    bl := hbl.set y
    b1 := nbox_step (nbox_step h.b1 hg _ hr (by decide)) g2 _ q2 (by decide)
    b2 := nbox_step (nbox_step h.b2 hg _ hr (by decide)) g2 _ q2 (by decide)
    ro := h1.grown g2 (fun k hk e => by
      obtain ⟨cells, fz, hc⟩ := rowB_typed h1 k hk
      obtain ⟨c2, hc2⟩ := q2 k e.symm
      rw [hc] at hc2
      injection hc2 with hc2
      injection hc2 with _ hc2
      exact absurd hc2 (by decide))
    ol := nR_step hR g2 _ q2 (fun q hq => by rcases List.mem_cons.1 hq with rfl | hq; decide; cases hq)
    bw := (h.bw.grown hg h.bw.size (fun k e => h.ol.1 k e)).setCell (p := ⟨BL, 0, none⟩) h.gL _ }
end
set_option maxRecDepth 100000 in
set_option maxHeartbeats 2000000 in
theorem nshards_calls (s : List UInt8) (w : World) : Calls Tryd.prog 18 #[.string (B s)] w fun e w' => ∃ v0 : Value, e = .returned (.tuple #[v0, .int .i64 (shR s).2]) ∧ Kd.R Kd.string 9 w' w.heap.size (fun _ => True) v0 (shR s).1 ∧ Below w.heap.size w w' := by
  refine (callsIn_wide (n := 5)).1 ?_
  refine callsIn_of_wp_marks Tryd.func18 rfl trivial ?_ rfl
  simp only [Tryd.ntmps18, List.size_toArray, List.length_cons, List.length_nil, Nat.reduceAdd, Nat.reduceSub, Array.replicate_succ, Array.replicate_zero, List.push_toArray, List.append_toArray, List.nil_append, List.cons_append]
  have hF : Fence.wide.fn 26 := trivial
  by_cases hs : 384 < s.length
  case pos =>
    have hs2 : 384 < (B s).size := by rw [B_size]; exact hs
    have hr : shR s = ([], 12) := if_pos hs
    gi_wp2
    refine ⟨_, results_tmp2 rfl _ _ _, _, by rw [hr]; rfl, by rw [hr]; exact Kd.R_nil _ _ _ _ _, Below.refl _ _⟩
  case neg =>
    have hs2 : ¬ 384 < (B s).size := by rw [B_size]; exact hs
    have hsl : s.length ≤ 384 := by omega
    have hr : shR s = ([0, 1, 2, 3, 4, 5].map (partN s), 0) := if_neg hs
    have hcv := fun (W : World) => Lib.run_convert_string_bytes (P := Tryd.prog) W 9 70 5 (B s) Tryd.underlying9 Tryd.underlying70 Tryd.underlying5
    obtain ⟨i0, hi0, hz0, hz1, hz2⟩ := ninfoU
    have hO0 := RowB.bytes (w.alloc (.cells #[.slice none 0 0] 30)) 5 (B s) (by rw [B_size]; unfold maxLen; omega)
    have hb0 := RowB.bytesBelow (w.alloc (.cells #[.slice none 0 0] 30)) 5 (B s)
    rw [B_data, B_size, World.size_alloc] at hO0
    obtain ⟨v1, w1, hrun, hO1, hg1⟩ := run_append_zerosB (P := Tryd.prog) _ (w.heap.size + 1) 70 3 70 5 i0 Tryd.underlying70 Tryd.underlying3 hi0 hz0 hz1 hz2 (w.heap.size + 1) _ s hO0 .i64 (384 - s.length) (by omega) (by rw [Lib.bytesWorld_size, World.size_alloc]; exact Nat.le_succ _)
    have hpad : s ++ List.replicate (384 - s.length) 0 = padN s := rfl
    rw [hpad] at hO1
    have hp384 := padN_len s hsl
    obtain ⟨g, cap, rfl, hge, hglt, hcap, hcm⟩ := hO1.ne (by intro e; rw [e] at hp384; cases hp384)
    have hB1 : Below w.heap.size w w1 := ((below_alloc (Below.refl _ w) _).trans (hb0.mono (by rw [World.size_alloc]; exact Nat.le_succ _))).grown hg1 (by rw [Lib.bytesWorld_size, World.size_alloc]; omega) (fun k e => by injection e with e; omega)
    have hL1 : Boxed w1 w.heap.size 30 (.slice none 0 0) := ((Boxed.new w 30 (.slice none 0 0)).kept (ngrown_below hb0 none) (by simp)).kept hg1 (fun e => by injection e with e; omega)
    have hi2 : ((384 - s.length : Nat) : Int) = 384 - ((B s).size : Int) := by rw [B_size]; omega
    rw [hi2, ← B_size s] at hrun
    rw [hp384] at hrun
    gi_wp2_with (first | (gi_at_builtin; refine nwpListIn_append rfl (.tmp 11) (.tmp 14) 70 3 rfl _ _ _ _ rfl rfl hrun ?_) | (gi_at_call 26; refine (chunk_calls g cap _ _).mono ?_; rintro e w' ⟨rfl, rfl⟩))
    have hbb : Below w1.heap.size w1 ((w1.alloc (.cells #[.slice (some ⟨g, 0, none⟩) 384 cap] 70)).alloc (.cells #[.int .i64 64] 3)) := below_alloc (below_alloc (Below.refl _ w1) _) _
    have hx2 := Boxed.new (w1.alloc (.cells #[.slice (some ⟨g, 0, none⟩) 384 cap] 70)) 3 (.int .i64 64)
    rw [World.size_alloc] at hx2
    have G : Sh w.heap.size w1.heap.size (w1.heap.size + 1) g cap s w (.slice none 0 0) [] ((w1.alloc (.cells #[.slice (some ⟨g, 0, none⟩) 384 cap] 70)).alloc (.cells #[.int .i64 64] 3)) :=
      ⟨hL1.kept (ngrown_below hbb none) (by simp), (Boxed.new w1 _ _).alloc _, hx2, (hO1.below hbb).raise (Nat.le_succ _), Kd.R_nil _ _ _ _ _, below2 hB1 hB1.size hbb, Nat.le_refl _⟩
    generalize (w1.alloc (.cells #[.slice (some ⟨g, 0, none⟩) 384 cap] 70)).alloc (.cells #[.int .i64 64] 3) = W0 at G ⊢
    have hn0 : w.heap.size ≤ W0.heap.size := G.bw.size
    refine wpIn_range_stops rfl (by decide) (gf := 37) (lb := #[.pointer (some ⟨w1.heap.size, 0, none⟩), .pointer (some ⟨w1.heap.size + 1, 0, none⟩)]) rfl trivial (enters_of Tryd.func37 (by kernel_rfl) rfl) (encs := fun x : Nat => #[.slice (some ⟨g, 64 * x, none⟩) 64 64]) (fun x _ => x < 6) (fun _ => False) (fun ys => ys = [0, 1, 2, 3, 4, 5]) (fun _ => False) 6 w.heap.size (fun W => W.cell? ⟨w1.heap.size, 0, none⟩ = some (.slice (some ⟨g, 0, none⟩) 384 cap) ∧ W.cell? ⟨w1.heap.size + 1, 0, none⟩ = some (.int .i64 64)) hn0 (fun _ => rfl) ?seq (fun pre W => ∃ v, Sh w.heap.size w1.heap.size (w1.heap.size + 1) g cap s w v (pre.map (partN s)) W) (fun _ _ => False) ?own (fun _ _ _ _ h _ _ => h) ?bx ⟨_, G⟩ (fun pre x a' W => ∃ v, x < 6 ∧ pre.length < 6 ∧ a' = { tmps := #[.string (B s), undef, .slice none 0 0, .int .i64 0, .pointer (some ⟨w.heap.size, 0, none⟩), .slice (some ⟨g, 0, none⟩) 384 cap, .slice (some ⟨g, 64 * x, none⟩) 64 64, .string (B s), .int .i64 ((B s).size : Int), .bool (decide (384 < ((B s).size : Int))), .string (B s), .slice (some ⟨w.heap.size + 1, 0, none⟩) (B s).size (grownCap (w.alloc (.cells #[.slice none 0 0] 30)) (B s).size 0 5), .string (B s), .int .i64 ((B s).size : Int), .int .i64 (384 - ((B s).size : Int)), .slice (some ⟨g, 0, none⟩) 384 cap, .slice (some ⟨g, 0, none⟩) 384 cap, .func (.func 37) #[] #[.pointer (some ⟨w1.heap.size, 0, none⟩), .pointer (some ⟨w1.heap.size + 1, 0, none⟩)], .slice (some ⟨g, 64 * x, none⟩) 64 64, undef, undef, undef, undef, undef, undef], defers := [] } ∧ Sh w.heap.size w1.heap.size (w1.heap.size + 1) g cap s w v (pre.map (partN s)) W) ?ax ?assign ?body ?done (fun _ _ _ _ hf _ _ => hf.elim)
    case seq =>
      intro lq J Jx W hW hJ hJx hBx hY h0
      exact (chunk_in _ (by decide) lq w1.heap.size (w1.heap.size + 1) g cap (by rw [← hp384]; exact hcap) w J Jx hJ hBx hY W (below2 G.bw hn0 hW) h0).mono (fun e W' h => ⟨h.1, h.2.imp id (fun ⟨ys, hf, _⟩ => hf.elim)⟩)
    case own =>
      rintro pre X Y row ⟨v, h⟩ hg hr
      exact ⟨v, h.calm hg (fun r e => ⟨Nat.le_trans hn0 (hr r e).1, (hr r e).2⟩)⟩
    case bx =>
      rintro ys X ⟨v, h⟩
      exact ⟨h.b1.cell, h.b2.cell⟩
    case ax =>
      rintro pre x a' _ X Y row ⟨v, h1, h2, h3, h4⟩ hg hr
      exact ⟨v, h1, h2, h3, h4.calm hg (fun r e => ⟨Nat.le_trans hn0 (hr r e).1, (hr r e).2⟩)⟩
    case assign =>
      rintro lq pre x W K ⟨v, HG⟩ hv hN hK
      gi_wp2
      exact hK _ _ ⟨Nat.le_refl _, fun _ _ _ hk _ => hk⟩ (Below.refl _ _) ⟨v, hv, hN, rfl, HG⟩
    case body =>
      rintro lq pre x a' W ⟨v, hx, hpl, rfl, HG⟩
      have hc := HG.bl.cell
      have hl64 : (((padN s).drop (64 * x)).take 64).length = 64 := by rw [List.length_take, List.length_drop, hp384]; omega
      have hcv2 := run_string_bytes (P := Tryd.prog) W 70 9 5 Tryd.underlying70 Tryd.underlying5 Tryd.underlying9 g (64 * x) 64 (((padN s).drop (64 * x)).take 64) (fun j y hj => by
        have h1 : (padN s)[64 * x + j]? = some y := by
          rw [List.getElem?_take] at hj
          split at hj
          · rw [List.getElem?_drop] at hj; exact hj
          · cases hj
        exact HG.ro.cells (g := g) rfl _ _ h1)
      rw [hl64] at hcv2
      replace hcv2 : (convert 70 9 (.slice (some ⟨g, 64 * x, none⟩) 64 64)).run Tryd.prog W = .ok (.string (partN s x)) W := hcv2
      clear hcv
      gi_wp2_with (gi_at_builtin; refine nappend_str rfl (.tmp 19) (.tmp 22) 30 9 rfl Tryd.underlying30 ninfoS w.heap.size v (pre.map (partN s)) rfl (partN s x) rfl HG.ol HG.bw.size (by rw [List.length_map]; omega) ?_; intro y1 w5 hR hg5; obtain ⟨A1, n1, c1, rfl⟩ : ∃ A1 n1 c1, y1 = .slice A1 n1 c1 := (by obtain ⟨A1, c1, e⟩ := Kd.R_slice hR; exact ⟨A1, _, c1, e⟩); have hbl5 : Boxed w5 w.heap.size 30 v := nbox_step HG.bl hg5 _ (fun k e => Kd.R_typed HG.ol k e) (by decide); have hc5 := hbl5.cell; have hf5 := hbl5.frozen)
      have hfin := HG.put hR hg5
      have bk : KeepsFrom W0.heap.size W (w5.setCell ⟨w.heap.size, 0, none⟩ (.slice A1 n1 c1)) := (nkeeps_typed hg5 (fun k e => Kd.R_typed HG.ol k e)).trans ((KeepsOthers.setCell w5 ⟨w.heap.size, 0, none⟩ (.slice A1 n1 c1)).from W0.heap.size)
      exact ⟨bk, nbelow_between HG.bw hfin.bw bk.size, .slice A1 n1 c1, hfin⟩
    case done =>
      rintro D ys W hD hS ⟨v, HG⟩ hK
      subst hS
      have hc := HG.bl.cell
      gi_wp2
      refine ⟨by simp, .inl ⟨_, _, rfl, run_takeDeferred hK, ?_⟩⟩
      have hfin := HG.calm (grownBy_putObj' W D (.deferred none)) (fun r e' => by cases e'; exact ⟨Nat.le_trans hn0 hD, _, hK, rfl⟩)
      refine ⟨_, results_tmp2 rfl _ _ _, v, by rw [hr]; rfl, ?_, hfin.bw⟩
      rw [hr]
      exact Kd.R_mono hfin.ol (fun _ _ => trivial)
def needle_Shards.f (a0 : ByteArray) : Option (List ByteArray × Int) := some (shR a0.data.toList)
theorem needle_Shards.calls (a0 : ByteArray) (r1 : List ByteArray) (r2 : Int) (w : World) (h : needle_Shards.f a0 = some (r1, r2)) :
    Calls Tryd.prog 18 #[.string a0] w fun e w' => ∃ v0_ : Value, e = .returned (.tuple #[v0_, .int .i64 r2]) ∧ Kd.R Kd.string 9 w' w.heap.size (fun _ => True) v0_ r1 ∧ Below w.heap.size w w' := by
  have e := Option.some.inj h
  have := nshards_calls a0.data.toList w
  rw [B_eta, e] at this
  exact this
end Go.Proofs.YtdcfonmjbelgbaaDoor
end
