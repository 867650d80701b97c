/- Lemmas for the law ReplayLongestUpto, merged out of several texts and cut down to what it names, by a program of this session (some of the first ones are of the words that print.sh wrote for this claim). -/
import Derived.StillTail
import Derived.Deep.QuietTactic
import Derived.BigQuiet
import Derived.Test.YtmfcbfgijimliaaProg
import Derived.Below
import Derived.Lib.OthersKept
import Derived.WalkKit
import Derived.Deep.LoopGhost
import Derived.Lib.Hide
import Derived.Laws.Rows
import Derived.Deep.MidRow
import Derived.WalkSpells
import Derived.WalkLawsBesides
import Derived.Lib.FrozenHead2
import Derived.Lib.UnsafeStr
import Derived.Outline
import Derived.BigCall
import Derived.Shelf.RegionOpenPlain
import Derived.Laws.Externs
import Derived.Laws.Tables
import Derived.Test.YtmfcbfgijimliaaKReplayLongestUpto1
import Derived.Test.YtmfcbfgijimliaaKReplayLongestUpto2
set_option linter.unusedVariables false
set_option linter.unusedSimpArgs false
section
namespace Go.Proofs.Ytmfcbfgijimliaa
section
variable {P : Program} {ops : Array Oper} {md : Region.Mode} {C : World → Prop}
def headQ (P : Program) (md : Region.Mode) (ops : Array Oper) (C : World → Prop) (n : Nat) (L : Array Bool → Act → Prop) : Nat → Array Bool → Act → Prop
  | 0, listed, a => L listed a
  | f + 1, listed, a => Region.ready md ops listed ≠ [] ∧ ∀ i ∈ Region.ready md ops listed, i < n ∧ qOp P ops C i (headQ P md ops C n L f (listed.setIfInBounds i true)) a
theorem headQ_any {n g : Nat} {L : Array Bool → Act → Prop} {Q : Exit → Act → World → Prop} (hL : ∀ listed a w, C w → L listed a → wpAny P md ops Q g listed a w) :
    ∀ (f : Nat) (listed : Array Bool) (a : Act) (w : World), C w → headQ P md ops C n L f listed a → wpAny P md ops Q (f + g) listed a w
  | 0, _, _, _, hw, h => by rw [Nat.zero_add]; exact hL _ _ _ hw h
  | f + 1, _, _, _, hw, h => by
    rw [show f + 1 + g = (f + g) + 1 by omega]
    exact ⟨fun h0 => absurd h0 h.1, fun i hi => wpOp_of_qOp hw (fun a' w' hw' h' => headQ_any hL f _ a' w' hw' h') (h.2 i hi).2⟩
theorem headQ_first {n i : Nat} {oi : Oper} {v : Value} {L : Array Bool → Act → Prop} (hi : ops[i]? = some oi) (hsel : ∀ (j : Nat) (o : Oper) cs b, ops[j]? = some o → o.op ≠ .select cs b)
    (hs : Region.sinkB md ops n = true) (hc : Region.chainB md ops n = true) (hn : n < ops.size) (hin : i < n)
    (hdone : ∀ listed a, L listed a → ∀ j ∈ Region.ready md ops listed, n ≤ j) :
    ∀ (f : Nat) (listed : Array Bool) (a : Act), HeadInv md ops n listed →
      (∀ j oj, ops[j]? = some oj → j ≠ i → listed.getD j true = false → (∀ e ∈ oj.after, Region.binds md e = true → e.on ≠ i) → oi.apart ops oj = true) →
      i ∈ Region.ready md ops listed → YieldsIn P ops C oi v a →
      headQ P md ops C n L f (listed.setIfInBounds i true) (a.put oi.dst v) → headQ P md ops C n L (f + 1) listed a := by
  intro f
  induction f with
  | zero =>
    intro listed a inv _ hr hy H
    have hun := (mem_ready.1 hr).1
    refine ⟨fun h => (by rw [h] at hr; cases hr), fun j hj => ?_⟩
    have hjn : j < n := by
      rcases Nat.lt_or_ge j n with h | h
      · exact h
      · exact absurd hj (tail_waits hs hc hn inv _ i rfl hin hun j h)
    refine ⟨hjn, ?_⟩
    by_cases hji : j = i
    · subst hji; exact hy.qOp hi H
    · have := hdone _ _ H j (ready_mono hj hji)
      omega
  | succ f ih =>
    intro listed a inv hfree hr hy H
    have hun := (mem_ready.1 hr).1
    refine ⟨fun h => (by rw [h] at hr; cases hr), fun j hj => ?_⟩
    have hjn : j < n := by
      rcases Nat.lt_or_ge j n with h | h
      · exact h
      · exact absurd hj (tail_waits hs hc hn inv _ i rfl hin hun j h)
    refine ⟨hjn, ?_⟩
    by_cases hji : j = i
    · subst hji; exact hy.qOp hi H
    · have h1 := (H.2 j (ready_mono hj hji)).2
      obtain ⟨hjun, oj, hoj, hall⟩ := mem_ready.1 hj
      have hnot : ∀ e ∈ oj.after, Region.binds md e = true → e.on ≠ i := fun e he hb heq => by
        have h1 := hall e he hb
        rw [heq, getD_both hun] at h1
        cases h1
      have h2 := qOp_put hoj (hfree j oj hoj hji hjun hnot) (fun cs b => hsel i oi cs b hi) (fun cs b => hsel j oj cs b hoj) hy h1
      have hfree' : ∀ k ok, ops[k]? = some ok → k ≠ i → (listed.setIfInBounds j true).getD k true = false →
          (∀ e ∈ ok.after, Region.binds md e = true → e.on ≠ i) → oi.apart ops ok = true := fun k ok hk hki hun hno => by
        refine hfree k ok hk hki ?_ hno
        by_cases hjk : j = k
        · subst hjk; exact hjun
        · rw [getD_set_ne true hjk] at hun; exact hun
      refine qOp_mono (fun a' h3 => ih (listed.setIfInBounds j true) a' (inv.set hj hjn) hfree' (ready_mono hr (Ne.symm hji)) h3.1 ?_) h2
      rw [Array.setIfInBounds_comm _ _ hji]
      exact h3.2
theorem headQ_lex {n g : Nat} {Lq : Act → Prop} (hsel : Region.noSelect ops = true) (hs : Region.sinkB md ops n = true) (hc : Region.chainB md ops n = true) (hn : n < ops.size) :
    ∀ (l : List Oper) (k : Nat) (listed : Array Bool) (a : Act), (∀ j, j < l.length → l[j]? = ops[k + j]?) → k + l.length = n → HeadInv md ops n listed →
    Region.lexHead md ops g l.length k listed = true → wpQuiet P ops C Lq l a →
    headQ P md ops C n (fun listed' a' => Region.seqB md ops g n listed' = true ∧ Lq a') l.length listed a
  | [], k, listed, a, _, hk, _, hB, h => by
    have : k = n := by simpa using hk
    subst this
    exact ⟨by simpa [Region.lexHead] using hB, h⟩
  | o :: l, k, listed, a, hl, hk, inv, hB, h => by
    have h0 : ops[k]? = some o := by simpa using (hl 0 (by simp)).symm
    simp only [List.length_cons, Region.lexHead, Bool.and_eq_true] at hB
    obtain ⟨⟨hr, hf⟩, hB'⟩ := hB
    have hkn : k < n := by simp only [List.length_cons] at hk; omega
    have hr' : k ∈ Region.ready md ops listed := by simpa using hr
    have hst : qOp P ops C k (wpQuiet P ops C Lq l) a := by unfold qOp; simp only [h0]; exact h
    obtain ⟨v, hy, hK⟩ := yieldsIn_of_qOp h0 hst
    exact headQ_first h0 (Region.noSelect_spec hsel) hs hc hn hkn (fun listed' a' hL => seqB_ready hL.1) l.length listed a inv (Region.free_spec h0 hf) hr' hy
      (headQ_lex hsel hs hc hn l (k + 1) _ _ (fun j hj => by have := hl (j + 1) (by simp; omega); simpa [Nat.add_assoc, Nat.add_comm 1 j] using this) (by simp only [List.length_cons] at hk; omega) (inv.set hr' hkn) hB' hK)
theorem region_class_tail (C : World → Prop) {id : Nat} {Q : Exit → Act → World → Prop} {a : Act} {w : World} {l : List Oper} (n : Nat) (hm : P.follows .mixedOrders = true) (hB : Region.lexTailB .any l.toArray n = true) (hC : C (w.drewN 1))
    (h : wpQuiet P l.toArray C (fun a' => ∀ w', C w' → wpList P l.toArray Q (l.drop n) a' w') (l.take n) a) : (Code.region id l.toArray true).wp P Q a w := by
  simp only [Region.lexTailB, Bool.and_eq_true, decide_eq_true_eq] at hB
  obtain ⟨⟨⟨⟨hsel, hn⟩, hs⟩, hc⟩, hlex⟩ := hB
  have hn' : n < l.length := by simpa using hn
  have htl : (l.take n).length = n := by simp; omega
  have hdl : (l.drop n).length = l.toArray.size - n := by simp
  have inv0 : HeadInv .any l.toArray n (Array.replicate l.toArray.size false) :=
    ⟨by simp, fun j oj _ hl => (by rw [getD_replicate_false] at hl; cases hl), fun t _ ht => getD_in (by simpa using ht) (getD_replicate_false _ _)⟩
  have H := headQ_lex (md := .any) (g := l.toArray.size - n) hsel hs hc hn (l.take n) 0 _ a (fun j hj => by
    have hj' : j < n := by rw [htl] at hj; exact hj
    simp [hj']) (by simpa using htl) inv0 (by rw [htl]; exact hlex) h
  refine wp_region_any hm ?_
  have := headQ_any (Q := Q) (g := l.toArray.size - n) (fun listed a' w' hw' hL => by
    have := wpAny_of_seq (md := .any) (Q' := Q) (l.drop n) n listed a' w' (fun j => by simp [List.getElem?_drop]) (by rw [hdl]; exact hL.1) (hL.2 w' hw')
    rwa [hdl] at this) _ _ _ (w.drewN 1) hC H
  rw [htl, show n + (l.toArray.size - n) = l.toArray.size by omega] at this
  exact this
theorem q_val {o : Oper} {rest : List Oper} {Q : Act → Prop} {a : Act} (v : Value) (N : Option Tmp) (hN : o.dst = N) (hw : Region.wanted o (yielded ops a.tmps) = true) (hrun : ∀ w', C w' → (execOp a.eval o).run P w' = .ok (.value v) w')
    (h : wpQuiet P ops C Q rest (a.put N v)) : wpQuiet P ops C Q (o :: rest) a := by
  subst hN
  refine wpQuiet_step (fun K hK => ?_)
  rw [if_pos hw]
  refine ⟨v, fun w' hw' => ?_, hK _ h⟩
  unfold Oper.quietAt
  rw [hrun w' hw']
  exact ⟨rfl, rfl⟩
theorem q_call {o : Oper} {rest : List Oper} {Q : Act → Prop} {a : Act} (f : FuncId) (args : Array Value) (v : Value) (N : Option Tmp) (hN : o.dst = N) (hw : Region.wanted o (yielded ops a.tmps) = true) (hrun : ∀ w', (execOp a.eval o).run P w' = .ok (.enter f args) w')
    (hc : ∀ w', C w' → Calls P f args w' fun e w'' => e = .returned v ∧ C w'') (h : wpQuiet P ops C Q rest (a.put N v)) : wpQuiet P ops C Q (o :: rest) a := by
  subst hN
  refine wpQuiet_step (fun K hK => ?_)
  rw [if_pos hw]
  refine ⟨v, fun w' hw' => ?_, hK _ h⟩
  unfold Oper.quietAt
  rw [hrun w']
  exact ⟨rfl, hc w' hw'⟩
end
end Go.Proofs.Ytmfcbfgijimliaa
namespace Go.Proofs.Ytmfcbfgijimliaa
open Go.RowKit
section
variable {P : Program} {ops : Array Oper} {W0 : World}
theorem region_below_tail {id : Nat} {Q : Exit → Act → World → Prop} {a : Act} {w : World} {l : List Oper} (n : Nat) (hm : P.follows .mixedOrders = true) (hB : Region.lexTailB .any l.toArray n = true)
    (h : wpQuiet P l.toArray (Below w.heap.size w) (fun a' => ∀ w', Below w.heap.size w w' → wpList P l.toArray Q (l.drop n) a' w') (l.take n) a) : (Code.region id l.toArray true).wp P Q a w :=
  region_class_tail (Below w.heap.size w) n hm hB (Below.drew (Below.refl _ _)) h
theorem q_ld {o : Oper} {rest : List Oper} {Q : Act → Prop} {a : Act} (T : TypeId) (x : Operand) (N : Nat) (ad : Addr) (v : Value) (ho : o.op = .load T x) (hN : o.dst = some N) (hg : o.guard = none) (hx : a.eval x = .pointer (some ad))
    (hT : ∀ (w' : World), w'.cell? ad = some v → (Instr.loadAt T (.pointer (some ad))).run P w' = .ok v w') (hc : W0.cell? ad = some v) (hlt : ad.block < W0.heap.size)
    (h : wpQuiet P ops (Below W0.heap.size W0) Q rest (a.put (some N) v)) : wpQuiet P ops (Below W0.heap.size W0) Q (o :: rest) a := by
  refine q_val v (some N) hN (by unfold Region.wanted; rw [hg]) (fun w' hw' => ?_) h
  have := hT w' ((hw'.cell hlt).trans hc)
  unfold execOp
  simp only [ho, hx, Sem.run_bind, this, Result.andThen_ok, Sem.run_pure]
theorem q_go {o : Oper} {rest : List Oper} {Q : Act → Prop} {a : Act} {f : FuncId} {fn : Func} {ops1 : Array Operand} {ts : Array TypeId} (hf : P.funcs[f]? = some fn) (hname : (fn.name == "runtime.NumGoroutine") = false) (hb : fn.body.isSome = true) (args : Array Value) (v : Value) (N : Nat)
    (hop : o.op = .call { callee := .value (.func f), args := ops1, argTypes := ts }) (hN : o.dst = some N) (hg : o.guard = none) (hargs : ops1.map a.eval = args)
    (hc : ∀ w', Below W0.heap.size W0 w' → Calls P f args w' fun e w'' => e = .returned v ∧ Below w'.heap.size w' w'')
    (h : wpQuiet P ops (Below W0.heap.size W0) Q rest (a.put (some N) v)) : wpQuiet P ops (Below W0.heap.size W0) Q (o :: rest) a := by
  refine q_call f args v (some N) hN (by unfold Region.wanted; rw [hg]) (fun w' => ?_) (fun w' hw' => ?_) h
  · have h1 : fn.name ≠ "runtime.NumGoroutine" := by simpa using hname
    obtain ⟨c, hc'⟩ := Option.isSome_iff_exists.1 hb
    unfold execOp
    simp [hop, resolve, Deferred.ofValue, invoke, Act.eval, hargs, callFunc, hf, h1, hc']
  · refine (hc w' hw').mono ?_
    rintro e w'' ⟨he, hb'⟩
    exact ⟨he, hw'.trans (hb'.mono hw'.size)⟩
theorem q_rdw {o : Oper} {rest : List Oper} {Q : Act → Prop} {a : Act} (T : TypeId) (x : Operand) (N : Nat) (ad : Addr) (v : Value) (ho : o.op = .load T x) (hN : o.dst = some N) (hw : Region.wanted o (yielded ops a.tmps) = true) (hx : a.eval x = .pointer (some ad))
    (hT : ∀ (w' : World), Below W0.heap.size W0 w' → (Instr.loadAt T (.pointer (some ad))).run P w' = .ok v w')
    (h : wpQuiet P ops (Below W0.heap.size W0) Q rest (a.put (some N) v)) : wpQuiet P ops (Below W0.heap.size W0) Q (o :: rest) a := by
  refine q_val v (some N) hN hw (fun w' hw' => ?_) h
  have := hT w' hw'
  unfold execOp
  simp only [ho, hx, Sem.run_bind, this, Result.andThen_ok, Sem.run_pure]
theorem q_gow {o : Oper} {rest : List Oper} {Q : Act → Prop} {a : Act} {f : FuncId} {fn : Func} {ops1 : Array Operand} {ts : Array TypeId} (hf : P.funcs[f]? = some fn) (hname : (fn.name == "runtime.NumGoroutine") = false) (hb : fn.body.isSome = true) (args : Array Value) (v : Value) (N : Nat)
    (hop : o.op = .call { callee := .value (.func f), args := ops1, argTypes := ts }) (hN : o.dst = some N) (hw : Region.wanted o (yielded ops a.tmps) = true) (hargs : ops1.map a.eval = args)
    (hc : ∀ w', Below W0.heap.size W0 w' → Calls P f args w' fun e w'' => e = .returned v ∧ Below w'.heap.size w' w'')
    (h : wpQuiet P ops (Below W0.heap.size W0) Q rest (a.put (some N) v)) : wpQuiet P ops (Below W0.heap.size W0) Q (o :: rest) a := by
  refine q_call f args v (some N) hN hw (fun w' => ?_) (fun w' hw' => ?_) h
  · have h1 : fn.name ≠ "runtime.NumGoroutine" := by simpa using hname
    obtain ⟨c, hc'⟩ := Option.isSome_iff_exists.1 hb
    unfold execOp
    simp [hop, resolve, Deferred.ofValue, invoke, Act.eval, hargs, callFunc, hf, h1, hc']
  · refine (hc w' hw').mono ?_
    rintro e w'' ⟨he, hb'⟩
    exact ⟨he, hw'.trans (hb'.mono hw'.size)⟩
end
theorem quiet_list {P : Program} {ops : Array Oper} {C : World → Prop} {Q : Exit → Act → World → Prop} (tail : List Oper) : ∀ (l : List Oper) (a : Act) (w : World), C w → wpQuiet P ops C (fun a' => ∀ w', C w' → wpList P ops Q tail a' w') l a → wpList P ops Q (l ++ tail) a w
  | [], a, w, hw, h => h w hw
  | o :: rest, a, w, hw, h => by
    unfold wpQuiet at h
    show if Region.wanted o (yielded ops a.tmps) = true then _ else _
    by_cases hn : Region.wanted o (yielded ops a.tmps) = true
    · rw [if_pos hn] at h ⊢
      exact .inl (Oper.wp_of_quiet hw (fun a' w' hw' hk => quiet_list tail rest a' w' hw' hk) h)
    · rw [if_neg hn] at h ⊢
      exact quiet_list tail rest _ w hw h
theorem list_quiet {P : Program} {ops : Array Oper} {Q : Exit → Act → World → Prop} {l : List Oper} {a : Act} {w : World} (h : wpQuiet P ops (Below w.heap.size w) (fun a' => ∀ w', Below w.heap.size w w' → Q .normal a' w') l a) : wpList P ops Q l a w := by
  have := quiet_list (P := P) (ops := ops) (Q := Q) [] l a w (Below.refl _ _) h
  rwa [List.append_nil] at this
theorem ld_int (ad : Addr) (v : Value) (w : World) (h : w.cell? ad = some v) : (Instr.loadAt 3 (.pointer (some ad))).run Try.prog w = .ok v w := by
  go_simp
theorem ld_str (ad : Addr) (v : Value) (w : World) (h : w.cell? ad = some v) : (Instr.loadAt 9 (.pointer (some ad))).run Try.prog w = .ok v w := by
  go_simp
end Go.Proofs.Ytmfcbfgijimliaa
end
section
namespace Go.Proofs.Ytmfcbfgijimliaa
open Go.RowKit Q Go.Proofs.YtmfcbfgijimliaaW.PrintWords Go.Proofs.YtmfcbfgijimliaaW.PrintLast Go.Proofs.YtmfcbfgijimliaaW.PrintMore
def plainB (c : UInt8) : Bool := decide (33 ≤ c.toNat) && decide (c.toNat ≤ 126)
theorem plain_not (n : Nat) : (decide (33 ≤ n) && decide (n ≤ 126)) = !(decide ((n : Int) < 33) || decide (126 < (n : Int))) := by
  rw [Bool.eq_iff_iff]
  simp
  omega
theorem decode_big (s : ByteArray) (i : Nat) (h : 128 ≤ (s.get! i).toNat) : 126 < (Utf8.decode s i).1 := by
  unfold Utf8.decode
  simp only [Nat.add_zero]
  rw [if_neg (by omega)]
  unfold Utf8.runeError
  split
  · split
    · rename_i h1; simp only; omega
    · decide
  · split
    · split
      · rename_i h1; simp only; simp at h1; omega
      · decide
    · split
      · split
        · rename_i h1; simp only; simp at h1; omega
        · decide
      · decide
theorem decode_small (s : ByteArray) (i : Nat) (h : (s.get! i).toNat < 128) : Utf8.decode s i = ((s.get! i).toNat, 1) := by
  unfold Utf8.decode
  simp only [Nat.add_zero]
  rw [if_pos h]
theorem get_B (l : List UInt8) (i : Nat) (h : i < l.length) : (B l).get! i = l[i] := by
  simp [ByteArray.get!, B, h]
set_option maxRecDepth 100000 in
theorem clos_calls (r : Int) (w : World) : Calls Try.prog 83 #[.int .i32 r] w fun e w' => e = .returned (.bool (decide (r < 33) || decide (126 < r))) ∧ Below w.heap.size w w' := by
  by_cases h1 : r < 33
  · go_enter Try.func83, Try.ntmps83
    go_wp2_with fail
    go_ret
    exact ⟨by simp [h1], Below.refl _ _⟩
  · by_cases h2 : 126 < r
    · go_enter Try.func83, Try.ntmps83
      go_wp2_with fail
      go_ret
      exact ⟨by simp, Below.refl _ _⟩
    · go_enter Try.func83, Try.ntmps83
      go_wp2_with fail
      go_ret
      exact ⟨by simp [h1, h2], Below.refl _ _⟩
set_option maxHeartbeats 2000000 in
set_option maxRecDepth 100000 in
theorem idx_calls (l : List UInt8) (w : World) : Calls Try.prog 85 #[.string (B l), .func (.func 83) #[] #[], .bool true] w fun e w' => ∃ r : Int, e = .returned (.int .i64 r) ∧ (decide (r < 0) = l.all plainB) ∧ Below w.heap.size w w' := by
  go_enter Try.func85, Try.ntmps85
  go_wp2_with fail
  go_loopg [] l.length (fun gf wx => ∃ pos : Nat, wx.heap[w.heap.size]? = some (.stringIter (B l) pos) ∧ Below w.heap.size w wx ∧ (l.take pos).all plainB = true ∧ pos + gf = l.length)
  case atStart => exact ⟨0, World.iter_heap w (B l) 0, (Below.refl _ w).alloc (Nat.le_refl _) _, rfl, by omega⟩
  case round =>
    obtain ⟨pos, hit, hbw, hall, hfu⟩ := hrel
    by_cases hps : pos < l.length
    · obtain ⟨g', rfl⟩ : ∃ g', gk = g' + 1 := ⟨gk - 1, by omega⟩
      have hps' : pos < (B l).size := by rw [B_size]; exact hps
      have hnx : ∀ ty, (Instr.next (.pointer (some ⟨w.heap.size, 0, none⟩)) true ty).run Try.prog wr = _ := fun ty => Lib.run_next_any_at wr w.heap.size (B l) pos ty hit hps'
      have hg := get_B l pos hps
      have htk : l.take (pos + 1) = l.take pos ++ [l[pos]] := by rw [List.take_add_one, List.getElem?_eq_getElem hps]; rfl
      have hdr : l = l.take pos ++ l[pos] :: l.drop (pos + 1) := by
        conv => lhs; rw [← List.take_append_drop pos l, List.drop_eq_getElem_cons hps]
        rfl
      by_cases hbig : 128 ≤ l[pos].toNat
      · have hd := decode_big (B l) pos (by rw [hg]; exact hbig)
        have hno : l.all plainB = false := by
          rw [hdr, List.all_append, List.all_cons]
          have : plainB l[pos] = false := by simp [plainB]; omega
          simp [this]
        obtain ⟨R, hR⟩ : ∃ R, (Utf8.decode (B l) pos).1 = R := ⟨_, rfl⟩
        obtain ⟨K, hK⟩ : ∃ K, (Utf8.decode (B l) pos).2 = K := ⟨_, rfl⟩
        rw [hR, hK] at hnx
        rw [hR] at hd
        have hbw2 := Lib.below_iterAt hbw (k := w.heap.size) (Nat.le_refl _) (B l) (pos + K)
        obtain ⟨W, hWd⟩ : ∃ W, wr.iterAt w.heap.size (B l) (pos + K) = W := ⟨_, rfl⟩
        rw [hWd] at hnx hbw2
        have cS := clos_calls (R : Int) W
        rw [show (decide ((R : Int) < 33) || decide (126 < (R : Int))) = true from by simp; omega] at cS
        clear hg htk hdr hit hbw hall hR hK hWd hd
        go_wp2_with fail
        refine cS.mono ?_
        rintro e W' ⟨rfl, b1⟩
        go_wp2_with fail
        go_ret
        exact ⟨pos, rfl, by rw [hno]; simp, below2 hbw2 hbw2.size b1⟩
      · have hd := decode_small (B l) pos (by rw [hg]; omega)
        rw [hg] at hd
        rw [hd] at hnx
        have hit2 := Lib.iterAt_heap wr w.heap.size (B l) pos (pos + 1) hit
        have hbw2 := Lib.below_iterAt hbw (k := w.heap.size) (Nat.le_refl _) (B l) (pos + 1)
        obtain ⟨W, hWd⟩ : ∃ W, wr.iterAt w.heap.size (B l) (pos + 1) = W := ⟨_, rfl⟩
        rw [hWd] at hnx hbw2 hit2
        have hp : plainB l[pos] = !(decide ((l[pos].toNat : Int) < 33) || decide (126 < (l[pos].toNat : Int))) := by
          exact plain_not _
        have cS := clos_calls (l[pos].toNat : Int) W
        generalize (decide ((l[pos].toNat : Int) < 33) || decide (126 < (l[pos].toNat : Int))) = q at cS hp
        cases q
        · have hall2 : (l.take (pos + 1)).all plainB = true := by rw [htk, List.all_append, hall]; simp [hp]
          generalize l[pos].toNat = R at hnx cS
          clear hg htk hdr hit hbw hall hWd hd hp
          go_wp2_with fail
          refine cS.mono ?_
          rintro e W' ⟨rfl, b1⟩
          go_wp2_with fail
          go_roundg g'
          case measure => omega
          case rel => exact ⟨pos + 1, (b1.block _ (Array.getElem?_eq_some_iff.1 hit2).1).trans hit2, below2 hbw2 hbw2.size b1, hall2, by omega⟩
        · have hno : l.all plainB = false := by
            rw [hdr, List.all_append, List.all_cons]
            simp [hp]
          generalize l[pos].toNat = R at hnx cS
          clear hg htk hdr hit hbw hall hWd hd hp
          go_wp2_with fail
          refine cS.mono ?_
          rintro e W' ⟨rfl, b1⟩
          go_wp2_with fail
          go_ret
          exact ⟨pos, rfl, by rw [hno]; simp, below2 hbw2 hbw2.size b1⟩
    · have hnx : ∀ ty, (Instr.next (.pointer (some ⟨w.heap.size, 0, none⟩)) true ty).run Try.prog wr = _ := fun ty => Lib.run_next_end_at wr w.heap.size (B l) pos ty hit (by rw [B_size]; exact hps)
      have hall2 : l.all plainB = true := by rw [← hall, List.take_of_length_le (by omega)]
      clear hall
      go_wp2_with fail
      go_ret
      exact ⟨-1, rfl, by rw [hall2]; rfl, hbw⟩
theorem idxf_calls (l : List UInt8) (w : World) : Calls Try.prog 82 #[.string (B l), .func (.func 83) #[] #[]] w fun e w' => ∃ r : Int, e = .returned (.int .i64 r) ∧ (decide (r < 0) = l.all plainB) ∧ Below w.heap.size w w' := by
  go_enter Try.func82, Try.ntmps82
  go_wp2_with fail
  refine (idx_calls l _).mono ?_
  rintro e w' ⟨r, rfl, hr, hb⟩
  go_wp2_with fail
  go_ret
  exact ⟨r, rfl, hr, hb⟩
def chkN (k v : List UInt8) : Int := if k = [] ∨ 32 < k.length ∨ k.all plainB = false then 11 else if 384 < (txt k).length + (txt v).length + 32 then 12 else 0
theorem txt_le (s : List UInt8) (h : s.length ≤ 140737488355328) : (txt s).length ≤ s.length + 8 := by
  unfold txt
  rw [List.length_append]
  have := enc_len8 (m := s.length) (by omega)
  omega
theorem text_L (s : List UInt8) (w : World) (h : s.length ≤ 140737488355328) : Calls Try.prog 34 #[.string (B s)] w fun e w' => e = .returned (.string (B (txt s))) ∧ Below w.heap.size w w' :=
  pack_Text.calls 20 _ _ w (text_f s 20 h (Nat.le_refl _))
theorem sum32 (a b : Nat) (ha : a ≤ 140737488355336) (hb : b ≤ 140737488355336) : wrap64 (wrap64 ((a : Int) + b) + 32) = ((a + b + 32 : Nat) : Int) := by
  unfold wrap64; omega
set_option maxHeartbeats 2000000 in
set_option maxRecDepth 100000 in
theorem nchk_calls (k v : List UInt8) (hv : v.length ≤ 140737488355328) (w : World) : Calls Try.prog 75 #[.agg #[.string (B k), .string (B v)]] w fun e w' => e = .returned (.int .i64 (chkN k v)) ∧ Below w.heap.size w w' := by
  have HB : Aside0 (Below w.heap.size w (w.alloc (.cells #[.string (B k), .string (B v)] 121))) := ⟨below_alloc (Below.refl _ _) _⟩
  have HH : Aside0 (Blk (w.alloc (.cells #[.string (B k), .string (B v)] 121)) w.heap.size #[.string (B k), .string (B v)] 121) := ⟨Blk.new _ _ _⟩
  have hu := Try.underlying121
  by_cases h0 : k = []
  · subst h0
    have HM : chkN [] v = 11 := by unfold chkN; rw [if_pos (.inl rfl)]
    rw [HM]
    have hb : (B []).toList = [] := B_toList []
    clear HM
    go_enter Try.func75, Try.ntmps75
    go_wp2_with fail
    refine (idxf_calls [] _).mono ?_
    rintro e w1 ⟨r, rfl, hr, b1⟩
    replace HH := Aside0.mk (HH.out.keep b1)
    replace HB := Aside0.mk (below2 HB.out HB.out.size b1)
    clear b1 hr
    have d0 := HH.out.cell (i := 0) (v := .string (B [])) rfl
    go_wp2_with fail
    go_ret
    exact ⟨rfl, HB.out⟩
  · have hb : ((B k).toList == []) = false := by rw [B_toList]; simpa using h0
    by_cases h1 : 32 < k.length
    · have HM : chkN k v = 11 := by unfold chkN; rw [if_pos (.inr (.inl h1))]
      rw [HM]
      have h1' : ((B k).size : Int) > 32 := by rw [B_size]; omega
      clear h0 HM h1
      go_enter Try.func75, Try.ntmps75
      go_wp2_with fail
      refine (idxf_calls k _).mono ?_
      rintro e w1 ⟨r, rfl, hr, b1⟩
      replace HH := Aside0.mk (HH.out.keep b1)
      replace HB := Aside0.mk (below2 HB.out HB.out.size b1)
      clear b1 hr
      have d0 := HH.out.cell (i := 0) (v := .string (B k)) rfl
      go_wp2_with fail
      go_ret
      exact ⟨rfl, HB.out⟩
    · have h1' : ¬ ((B k).size : Int) > 32 := by rw [B_size]; omega
      cases hq : k.all plainB with
      | false =>
        have HM : chkN k v = 11 := by unfold chkN; rw [if_pos (.inr (.inr hq))]
        rw [HM]
        clear h0 HM h1
        go_enter Try.func75, Try.ntmps75
        go_wp2_with fail
        refine (idxf_calls k _).mono ?_
        rintro e w1 ⟨r, rfl, hr, b1⟩
        replace HH := Aside0.mk (HH.out.keep b1)
        replace HB := Aside0.mk (below2 HB.out HB.out.size b1)
        have hr3 : decide (r < 0) = false := by rw [hq] at hr; exact hr
        have hz1 : decide (32 < ((B k).size : Int)) = false := decide_eq_false (by omega)
        clear b1 hr
        have d0 := HH.out.cell (i := 0) (v := .string (B k)) rfl
        go_wp2_with fail
        go_ret
        exact ⟨rfl, HB.out⟩
      | true =>
        have hkl : k.length ≤ 32 := by omega
        have HM : chkN k v = if 384 < (txt k).length + (txt v).length + 32 then 12 else 0 := by
          unfold chkN
          rw [if_neg]
          rintro (h | h | h)
          · exact h0 h
          · exact h1 h
          · rw [hq] at h; cases h
        obtain ⟨z, hz⟩ : ∃ z : Int, chkN k v = z := ⟨_, rfl⟩
        rw [hz]
        rw [HM] at hz
        have HZ := Lib.hid hz
        clear hz
        have hs := sum32 (txt k).length (txt v).length (by have := txt_le k (by omega); omega) (by have := txt_le v hv; omega)
        have HK := Lib.hid hkl
        have HVV := Lib.hid hv
        clear h0 HM h1 hkl hv
        go_enter Try.func75, Try.ntmps75
        go_wp2_with fail
        refine (idxf_calls k _).mono ?_
        rintro e w1 ⟨r, rfl, hr, b1⟩
        replace HH := Aside0.mk (HH.out.keep b1)
        replace HB := Aside0.mk (below2 HB.out HB.out.size b1)
        have hr2 : r < 0 := by rw [hq] at hr; simpa using hr
        clear b1 hr hq
        have hr3 : decide (r < 0) = true := decide_eq_true hr2
        have hz1 : decide (32 < ((B k).size : Int)) = false := decide_eq_false (by omega)
        have d0 := HH.out.cell (i := 0) (v := .string (B k)) rfl
        have d1 := HH.out.cell (i := 1) (v := .string (B v)) rfl
        have hH := HH.out.lt
        go_wp2_with fail
        refine region_below_tail 11 (by kernel_rfl) (by kernel_rfl) ?_
        simp only [List.take_succ_cons, List.take_zero, List.drop_succ_cons, List.drop_zero]
        repeat (first | go_big_quiet_step (fail) | (refine BigFrame.wpQuiet_want (by rfl) (fun K hK => ?_); go_big_quiet_op; refine ⟨_, fun _ _ => rfl, hK _ ?_⟩; clear hK K) | (refine q_ld 9 _ _ _ _ rfl rfl rfl rfl (ld_str _ _) (by assumption) (by assumption) ?_; simp only [Act.put, List.setIfInBounds_toArray, List.set_cons_zero, List.set_cons_succ]) | (refine q_go (f := 34) Try.func34 (by kernel_rfl) rfl #[.string (B k)] _ _ rfl rfl rfl (by simp only [List.map_toArray, List.map_cons, List.map_nil]; rfl) (fun w' _ => text_L k w' (Nat.le_trans HK.out (by decide))) ?_; simp only [Act.put, List.setIfInBounds_toArray, List.set_cons_zero, List.set_cons_succ]) | (refine q_go (f := 34) Try.func34 (by kernel_rfl) rfl #[.string (B v)] _ _ rfl rfl rfl (by simp only [List.map_toArray, List.map_cons, List.map_nil]; rfl) (fun w' _ => text_L v w' HVV.out) ?_; simp only [Act.put, List.setIfInBounds_toArray, List.set_cons_zero, List.set_cons_succ]))
        refine wpQuiet_nil ?_
        intro wn hw'
        replace HB := Aside0.mk (below2 HB.out HB.out.size hw')
        by_cases hc : 384 < (txt k).length + (txt v).length + 32
        · have hc2 : 384 < wrap64 (wrap64 (((B (txt k)).size : Int) + ((B (txt v)).size : Int)) + 32) := by rw [B_size, B_size, hs]; omega
          have hz2 := HZ.out
          rw [if_pos hc] at hz2
          subst hz2
          clear HZ
          go_wp2_with fail
          go_ret
          exact ⟨rfl, HB.out⟩
        · have hc2 : ¬ 384 < wrap64 (wrap64 (((B (txt k)).size : Int) + ((B (txt v)).size : Int)) + 32) := by rw [B_size, B_size, hs]; omega
          have hz2 := HZ.out
          rw [if_neg hc] at hz2
          subst hz2
          clear HZ
          go_wp2_with fail
          go_ret
          exact ⟨rfl, HB.out⟩
end Go.Proofs.Ytmfcbfgijimliaa
end
section
namespace Go.Proofs.Ytmfcbfgijimliaa
open Go.RowKit Go.Maps Q Go.Proofs.YtmfcbfgijimliaaW.PrintWords Go.Proofs.YtmfcbfgijimliaaW.PrintLast
def plainK (l : List UInt8) : Bool := l.all plainB && (decide (1 ≤ l.length) && decide (l.length ≤ 32))
theorem chkN_plain (k : List UInt8) : chkN k [] = if plainK k = true then 0 else 11 := by
  unfold chkN plainK
  by_cases h0 : k = []
  · subst h0; rfl
  · have h1 : 1 ≤ k.length := by cases k with
      | nil => exact absurd rfl h0
      | cons a l => simp
    by_cases h2 : 32 < k.length
    · rw [if_pos (.inr (.inl h2)), if_neg]
      rw [decide_eq_false (p := k.length ≤ 32) (by omega)]; simp
    · cases h3 : k.all plainB with
      | false => rw [if_pos (.inr (.inr rfl)), if_neg (by simp)]
      | true =>
        rw [if_neg (by rintro (h | h | h); exact h0 h; exact h2 h; cases h), if_neg, if_pos]
        · rw [decide_eq_true h1, decide_eq_true (by omega : k.length ≤ 32)]; rfl
        · have a := txt_le k (by omega)
          have b : (txt []).length = 1 := by simp [txt, enc_lt]
          omega
theorem bt_at (l : List UInt8) (i : Nat) (h : i < l.length) : bt (B l) (i : Int) = ((l[i]).toNat : Int) := by
  rw [bt_B, List.getD, List.getElem?_eq_getElem h]
  rfl
theorem wrap_k (i : Nat) (h : i ≤ 140737488355328) : wrap64 ((i : Int) + 1) = ((i + 1 : Nat) : Int) := by unfold wrap64; omega
theorem rd_map (l : List S83) (i : Nat) (h : i < l.length) : (l.map (·.f0))[i]'(by rw [List.length_map]; exact h) = (rd_T83 l i).f0 := by
  unfold rd_T83
  simp [List.getD, List.getElem?_eq_getElem h]
theorem inner (l : List S83) (h9 : l.length = 9) (V G N : Int) (i : Nat) (hi : i < 9) (d : Nat) : ∀ (j k : Nat), i - j = d → j ≤ i → d < k → ∃ k', k' + d + 1 = k ∧ sluicegateref11_Volume.l1 k (i : Int) (j : Int) V G N l = if (((l.map (·.f0)).take i).drop j).contains (rd_T83 l i).f0 = true then some false else sluicegateref11_Volume.l0 k' ((i + 1 : Nat) : Int) V G N l := by
  induction d with
  | zero =>
    intro j k hd hj hk
    obtain ⟨k, rfl⟩ : ∃ m, k = m + 1 := ⟨k - 1, by omega⟩
    refine ⟨k, by omega, ?_⟩
    have : j = i := by omega
    subst this
    simp only [sluicegateref11_Volume.l1]
    rw [if_neg (by omega), wrap_k j (by omega), List.drop_of_length_le (by rw [List.length_take]; omega)]
    simp
  | succ d ih =>
    intro j k hd hj hk
    obtain ⟨k, rfl⟩ : ∃ m, k = m + 1 := ⟨k - 1, by omega⟩
    obtain ⟨k', hk', e⟩ := ih (j + 1) k (by omega) (by omega) (by omega)
    refine ⟨k', by omega, ?_⟩
    simp only [sluicegateref11_Volume.l1]
    rw [if_pos (by omega), if_pos (by omega), if_pos (by omega), if_pos (by omega), if_pos (by omega), wrap_k j (by omega), e]
    have hjl : j < ((l.map (·.f0)).take i).length := by rw [List.length_take, List.length_map]; omega
    have hjv : ((l.map (·.f0)).take i)[j] = (rd_T83 l j).f0 := by
      rw [List.getElem_take]
      exact rd_map l j (by omega)
    rw [List.drop_eq_getElem_cons hjl, List.contains_cons, hjv]
    by_cases h : (rd_T83 l j).f0 = (rd_T83 l i).f0
    · rw [if_pos h, if_pos (by rw [h]; simp)]
    · rw [if_neg h]
      have : ((rd_T83 l i).f0 == (rd_T83 l j).f0) = false := by
        rw [beq_eq_false_iff_ne]
        exact fun e => h e.symm
      rw [this, Bool.false_or]
end Go.Proofs.Ytmfcbfgijimliaa
end
section
namespace Go.Proofs.Ytmfcbfgijimliaa
open Go.RowKit Q Go.Proofs.YtmfcbfgijimliaaW.PrintWords Go.Proofs.YtmfcbfgijimliaaW.PrintLast Go.Proofs.YtmfcbfgijimliaaW.PrintMore
theorem blk2 (w : World) (a : Obj) (c : Array Value) (T : TypeId) : Blk ((w.alloc a).alloc (.cells c T)) (w.heap.size + 1) c T := by
  have := Blk.new (w.alloc a) c T
  rwa [World.size_alloc] at this
theorem below_alloc2 (w : World) (a b : Obj) : Below w.heap.size w ((w.alloc a).alloc b) := below_alloc (below_alloc (Below.refl _ _) a) b
theorem below_alloc3 (w : World) (a b c : Obj) : Below w.heap.size w (((w.alloc a).alloc b).alloc c) := below_alloc (below_alloc2 w a b) c
set_option maxRecDepth 100000 in
set_option maxHeartbeats 1000000 in
theorem named_1 (q0 q1 q2 q3 q4 : Int) (A : Option Addr) (n c : Nat) (q6 : ByteArray) (q7 q8 q9 : Int) (q10 q11 : ByteArray) (q12 q13 : Int) (w : World) (hk : q1 = 1) : Calls Try.prog 54 #[.agg #[.int .i64 q0, .int .i64 q1, .int .i64 q2, .int .i64 q3, .int .i64 q4, (.slice A n c), .string q6, .int .i64 q7, .int .i64 q8, .int .i64 q9, .string q10, .string q11, .int .i64 q12, .int .i64 q13]] w fun e w' => e = .returned (.agg #[.int .i64 q0, .int .i64 q1, .int .i64 0, .int .i64 0, .int .i64 0, (.slice none 0 0), .string ⟨#[]⟩, .int .i64 0, .int .i64 0, .int .i64 0, .string ⟨#[]⟩, .string q11, .int .i64 0, .int .i64 0]) ∧ Below w.heap.size w w' := by
  have hu0 := Try.underlying33
  have hu1 := Try.underlying55
  have hu2 := Try.underlying29
  have hu3 := Try.underlying31
  have hu4 := Try.underlying83
  have f1 : (q1 == 1) = true := by simp [hk]
  have f0 : (q1 == 0) = false := by simp [hk]
  have f3 : (q1 == 3) = false := by simp [hk]
  clear hk
  go_enter Try.func54, Try.ntmps54
  go_wp2_with fail
  refine bodyPost_ret (results_cell_row rfl _ _ (w.heap.size + 1) 55 #[.int .i64 q0, .int .i64 q1, .int .i64 0, .int .i64 0, .int .i64 0, (.slice none 0 0), .string ⟨#[]⟩, .int .i64 0, .int .i64 0, .int .i64 0, .string ⟨#[]⟩, .string q11, .int .i64 0, .int .i64 0] (0, 0) _ rfl ((blk2 _ _ _ _).alloc _) Try.underlying55 rfl (by kernel_rfl)) rfl ⟨rfl, below_alloc3 _ _ _ _⟩
set_option maxRecDepth 100000 in
set_option maxHeartbeats 1000000 in
theorem named_x (q0 q1 q2 q3 q4 : Int) (A : Option Addr) (n c : Nat) (q6 : ByteArray) (q7 q8 q9 : Int) (q10 q11 : ByteArray) (q12 q13 : Int) (w : World) (h0 : q1 ≠ 0) (h1 : q1 ≠ 1) (h3 : q1 ≠ 3) : Calls Try.prog 54 #[.agg #[.int .i64 q0, .int .i64 q1, .int .i64 q2, .int .i64 q3, .int .i64 q4, (.slice A n c), .string q6, .int .i64 q7, .int .i64 q8, .int .i64 q9, .string q10, .string q11, .int .i64 q12, .int .i64 q13]] w fun e w' => e = .returned (.agg #[.int .i64 q0, .int .i64 q1, .int .i64 q2, .int .i64 q3, .int .i64 q4, (.slice A n c), .string ⟨#[]⟩, .int .i64 0, .int .i64 0, .int .i64 0, .string ⟨#[]⟩, .string ⟨#[]⟩, .int .i64 0, .int .i64 0]) ∧ Below w.heap.size w w' := by
  have hu0 := Try.underlying33
  have hu1 := Try.underlying55
  have hu2 := Try.underlying29
  have hu3 := Try.underlying31
  have hu4 := Try.underlying83
  have f1 : (q1 == 1) = false := by simp [h1]
  have f0 : (q1 == 0) = false := by simp [h0]
  have f3 : (q1 == 3) = false := by simp [h3]
  clear h0 h1 h3
  go_enter Try.func54, Try.ntmps54
  go_wp2_with fail
  refine bodyPost_ret (results_cell_row rfl _ _ (w.heap.size + 1) 55 #[.int .i64 q0, .int .i64 q1, .int .i64 q2, .int .i64 q3, .int .i64 q4, (.slice A n c), .string ⟨#[]⟩, .int .i64 0, .int .i64 0, .int .i64 0, .string ⟨#[]⟩, .string ⟨#[]⟩, .int .i64 0, .int .i64 0] (0, 0) _ rfl ((blk2 _ _ _ _).alloc _) Try.underlying55 rfl (by kernel_rfl)) rfl ⟨rfl, below_alloc3 _ _ _ _⟩
end Go.Proofs.Ytmfcbfgijimliaa
end
section
namespace Go.Proofs.Ytmfcbfgijimliaa
open Go.RowKit Go.Proofs.YtmfcbfgijimliaaW.PrintWords
theorem Blk.range {W : World} {g : Nat} {c : Array Value} {T : TypeId} (h : Blk W g c T) (o : Nat) (cs : List Value) (hcs : (c.toList.drop o).take cs.length = cs) : W.rangeAt g o cs := by
  intro j v hv
  refine h.cell ?_
  have hj : j < cs.length := (List.getElem?_eq_some_iff.1 hv).1
  rw [← hcs, List.getElem?_take, if_pos hj, List.getElem?_drop] at hv
  rw [← hv, Array.getElem?_toList]
theorem Blk.there {W : World} {g : Nat} {c : Array Value} {T : TypeId} (h : Blk W g c T) (o n : Nat) (hn : o + n ≤ c.size) : W.there g o n := by
  intro j hj
  refine ⟨?_, h.free _⟩
  rw [h.cell (i := o + j) (Array.getElem?_eq_getElem (by omega))]
  rfl
def putA (c : Array Value) : Nat → List Value → Array Value
  | _, [] => c
  | o, v :: r => putA (c.setIfInBounds o v) (o + 1) r
theorem Blk.setCells {g : Nat} {T : TypeId} : ∀ (vs : List Value) (o : Nat) {W : World} {c : Array Value}, Blk W g c T → Blk (W.setCells g o vs) g (putA c o vs) T
  | [], _, _, _, h => h
  | v :: r, o, _, _, h => Blk.setCells r (o + 1) (h.set o v)
theorem Blk.setCells_other {g g' : Nat} {T : TypeId} {c : Array Value} (hne : g ≠ g') : ∀ (vs : List Value) (o : Nat) {W : World}, Blk W g c T → Blk (W.setCells g' o vs) g c T
  | [], _, _, h => h
  | v :: r, o, _, h => Blk.setCells_other hne r (o + 1) (h.other hne o v)
theorem below_setCells {B : Nat} {w : World} {g : Nat} (hg : B ≤ g) : ∀ (vs : List Value) (o : Nat) {W : World}, Below B w W → Below B w (W.setCells g o vs)
  | [], _, _, h => h
  | v :: r, o, _, h => below_setCells hg r (o + 1) (h.setCell hg _)
section
variable {P : Program}
theorem ld_run (ev : Operand → Value) (ty : TypeId) (x : Operand) {W : World} {g : Nat} {c : Array Value} {T : TypeId} (h : Blk W g c T) (o : Nat) (cs : List Value) (d : TypeDesc) (hcs : (c.toList.drop o).take cs.length = cs) (hx : ev x = .pointer (some ⟨g, o, none⟩)) (hu : P.underlying ty = some d) (hd : d.isRow = true) (hi : (P.info? ty).map (·.size) = some cs.length) {op : Oper} (ho : op.op = .load ty x) :
    (execOp ev op).run P W = .ok (.value (.agg cs.toArray)) W := by
  unfold execOp
  simp only [ho, hx, Sem.run_bind, Result.andThen_ok, run_loadAt_mid W g o ty cs d (h.range o cs hcs) hu hd hi, Sem.run_pure]
theorem st_run (ev : Operand → Value) (ty : TypeId) (x y : Operand) {W : World} {g : Nat} {c : Array Value} {T : TypeId} (h : Blk W g c T) (o : Nat) (cells : Array Value) (hn : o + cells.size ≤ c.size) (hx : ev x = .pointer (some ⟨g, o, none⟩)) (hy : ev y = .agg cells) (hi : (P.info? ty).map (·.size) = some cells.size) (h1 : cells.all (·.oneCell') = true) {op : Oper} (ho : op.op = .store ty x y) :
    (execOp ev op).run P W = .ok .skip (W.setCells g o cells.toList) := by
  unfold execOp
  simp only [ho, hx, hy, Sem.run_bind, Result.andThen_ok, run_storeAt_mid W g o ty cells (h.there o _ hn) hi h1, Sem.run_pure]
end
end Go.Proofs.Ytmfcbfgijimliaa
end
section
namespace Go.Proofs.Ytmfcbfgijimliaa
open Go.RowKit Q Go.Proofs.YtmfcbfgijimliaaW.PrintWords Go.Proofs.YtmfcbfgijimliaaW.PrintLast Go.Proofs.YtmfcbfgijimliaaW.PrintMore
theorem blk3 (w : World) (a b : Obj) (c : Array Value) (T : TypeId) : Blk (((w.alloc a).alloc b).alloc (.cells c T)) (w.heap.size + 1 + 1) c T := by
  have := Blk.new ((w.alloc a).alloc b) c T
  rwa [World.size_alloc, World.size_alloc] at this
set_option maxRecDepth 100000 in
set_option maxHeartbeats 2000000 in
theorem named_0 (q0 q1 q2 q3 q4 : Int) (A : Option Addr) (n c : Nat) (q6 : ByteArray) (q7 q8 q9 : Int) (q10 q11 : ByteArray) (q12 q13 : Int) (w : World) (hk : q1 = 0) : Calls Try.prog 54 #[.agg #[.int .i64 q0, .int .i64 q1, .int .i64 q2, .int .i64 q3, .int .i64 q4, (.slice A n c), .string q6, .int .i64 q7, .int .i64 q8, .int .i64 q9, .string q10, .string q11, .int .i64 q12, .int .i64 q13]] w fun e w' => e = .returned (.agg #[.int .i64 q0, .int .i64 q1, .int .i64 q2, .int .i64 q3, .int .i64 q4, (.slice A n c), .string q6, .int .i64 q7, .int .i64 q8, .int .i64 q9, .string q10, .string ⟨#[]⟩, .int .i64 0, .int .i64 0]) ∧ Below w.heap.size w w' := by
  have hu0 := Try.underlying33
  have hu1 := Try.underlying55
  have hu2 := Try.underlying29
  have hu3 := Try.underlying31
  have hu4 := Try.underlying83
  have f1 : (q1 == 1) = false := by simp [hk]
  have f0 : (q1 == 0) = true := by simp [hk]
  have f3 : (q1 == 3) = false := by simp [hk]
  clear hk
  have HR := Aside0.mk (show Blk ((((w.alloc (.cells #[.int .i64 q0, .int .i64 q1, .int .i64 q2, .int .i64 q3, .int .i64 q4, (.slice A n c), .string q6, .int .i64 q7, .int .i64 q8, .int .i64 q9, .string q10, .string q11, .int .i64 q12, .int .i64 q13] 55)).alloc (.cells #[.int .i64 0, .int .i64 0, .int .i64 0, .int .i64 0, .int .i64 0, (.slice none 0 0), .string ⟨#[]⟩, .int .i64 0, .int .i64 0, .int .i64 0, .string ⟨#[]⟩, .string ⟨#[]⟩, .int .i64 0, .int .i64 0] 55)).alloc (.cells #[.int .i64 q0, .int .i64 q1, .int .i64 0, .int .i64 0, .int .i64 0, (.slice none 0 0), .string ⟨#[]⟩, .int .i64 0, .int .i64 0, .int .i64 0, .string ⟨#[]⟩, .string ⟨#[]⟩, .int .i64 0, .int .i64 0] 55)).drew) w.heap.size #[.int .i64 q0, .int .i64 q1, .int .i64 q2, .int .i64 q3, .int .i64 q4, (.slice A n c), .string q6, .int .i64 q7, .int .i64 q8, .int .i64 q9, .string q10, .string q11, .int .i64 q12, .int .i64 q13] 55 from ((Blk.new w _ _).alloc _).alloc _)
  have HZ := Aside0.mk (show Blk ((((w.alloc (.cells #[.int .i64 q0, .int .i64 q1, .int .i64 q2, .int .i64 q3, .int .i64 q4, (.slice A n c), .string q6, .int .i64 q7, .int .i64 q8, .int .i64 q9, .string q10, .string q11, .int .i64 q12, .int .i64 q13] 55)).alloc (.cells #[.int .i64 0, .int .i64 0, .int .i64 0, .int .i64 0, .int .i64 0, (.slice none 0 0), .string ⟨#[]⟩, .int .i64 0, .int .i64 0, .int .i64 0, .string ⟨#[]⟩, .string ⟨#[]⟩, .int .i64 0, .int .i64 0] 55)).alloc (.cells #[.int .i64 q0, .int .i64 q1, .int .i64 0, .int .i64 0, .int .i64 0, (.slice none 0 0), .string ⟨#[]⟩, .int .i64 0, .int .i64 0, .int .i64 0, .string ⟨#[]⟩, .string ⟨#[]⟩, .int .i64 0, .int .i64 0] 55)).drew) (w.heap.size + 1) #[.int .i64 0, .int .i64 0, .int .i64 0, .int .i64 0, .int .i64 0, (.slice none 0 0), .string ⟨#[]⟩, .int .i64 0, .int .i64 0, .int .i64 0, .string ⟨#[]⟩, .string ⟨#[]⟩, .int .i64 0, .int .i64 0] 55 from (blk2 w _ _ _).alloc _)
  have HX := Aside0.mk (show Blk ((((w.alloc (.cells #[.int .i64 q0, .int .i64 q1, .int .i64 q2, .int .i64 q3, .int .i64 q4, (.slice A n c), .string q6, .int .i64 q7, .int .i64 q8, .int .i64 q9, .string q10, .string q11, .int .i64 q12, .int .i64 q13] 55)).alloc (.cells #[.int .i64 0, .int .i64 0, .int .i64 0, .int .i64 0, .int .i64 0, (.slice none 0 0), .string ⟨#[]⟩, .int .i64 0, .int .i64 0, .int .i64 0, .string ⟨#[]⟩, .string ⟨#[]⟩, .int .i64 0, .int .i64 0] 55)).alloc (.cells #[.int .i64 q0, .int .i64 q1, .int .i64 0, .int .i64 0, .int .i64 0, (.slice none 0 0), .string ⟨#[]⟩, .int .i64 0, .int .i64 0, .int .i64 0, .string ⟨#[]⟩, .string ⟨#[]⟩, .int .i64 0, .int .i64 0] 55)).drew) (w.heap.size + 1 + 1) #[.int .i64 q0, .int .i64 q1, .int .i64 0, .int .i64 0, .int .i64 0, (.slice none 0 0), .string ⟨#[]⟩, .int .i64 0, .int .i64 0, .int .i64 0, .string ⟨#[]⟩, .string ⟨#[]⟩, .int .i64 0, .int .i64 0] 55 from blk3 w _ _ _ _)
  have HB := Aside0.mk (Below.drew (below_alloc3 w (.cells #[.int .i64 q0, .int .i64 q1, .int .i64 q2, .int .i64 q3, .int .i64 q4, (.slice A n c), .string q6, .int .i64 q7, .int .i64 q8, .int .i64 q9, .string q10, .string q11, .int .i64 q12, .int .i64 q13] 55) (.cells #[.int .i64 0, .int .i64 0, .int .i64 0, .int .i64 0, .int .i64 0, (.slice none 0 0), .string ⟨#[]⟩, .int .i64 0, .int .i64 0, .int .i64 0, .string ⟨#[]⟩, .string ⟨#[]⟩, .int .i64 0, .int .i64 0] 55) (.cells #[.int .i64 q0, .int .i64 q1, .int .i64 0, .int .i64 0, .int .i64 0, (.slice none 0 0), .string ⟨#[]⟩, .int .i64 0, .int .i64 0, .int .i64 0, .string ⟨#[]⟩, .string ⟨#[]⟩, .int .i64 0, .int .i64 0] 55)))
  go_enter Try.func54, Try.ntmps54
  go_wp2_with fail
  generalize (((w.alloc (.cells #[.int .i64 q0, .int .i64 q1, .int .i64 q2, .int .i64 q3, .int .i64 q4, (.slice A n c), .string q6, .int .i64 q7, .int .i64 q8, .int .i64 q9, .string q10, .string q11, .int .i64 q12, .int .i64 q13] 55)).alloc (.cells #[.int .i64 0, .int .i64 0, .int .i64 0, .int .i64 0, .int .i64 0, (.slice none 0 0), .string ⟨#[]⟩, .int .i64 0, .int .i64 0, .int .i64 0, .string ⟨#[]⟩, .string ⟨#[]⟩, .int .i64 0, .int .i64 0] 55)).alloc (.cells #[.int .i64 q0, .int .i64 q1, .int .i64 0, .int .i64 0, .int .i64 0, (.slice none 0 0), .string ⟨#[]⟩, .int .i64 0, .int .i64 0, .int .i64 0, .string ⟨#[]⟩, .string ⟨#[]⟩, .int .i64 0, .int .i64 0] 55)) = wd at *
  refine start_ (n := 8) (S := fun w' => Aside0 (Blk w' w.heap.size #[.int .i64 q0, .int .i64 q1, .int .i64 q2, .int .i64 q3, .int .i64 q4, (.slice A n c), .string q6, .int .i64 q7, .int .i64 q8, .int .i64 q9, .string q10, .string q11, .int .i64 q12, .int .i64 q13] 55) ∧ Aside0 (Below w.heap.size w w')) (ds := [7]) #[false, false, false, false, false, false, false, false] (by kernel_rfl) rfl rfl ⟨⟨HR.out⟩, ⟨HB.out⟩⟩ (fun hHeld => ?_)
  refine pure_ (i := 0) (N := some 20) (v := ?_) (a' := ?_) #[true, false, false, false, false, false, false, false] rfl rfl (by kernel_rfl) (fun _ _ _ h => h) (Or.inl ⟨by rfl, ?_⟩) ?_ ?_
  rotate_left
  · intro w'
    go_simp
    with_reducible rfl
  rotate_left
  · simp only [Act.put, List.setIfInBounds_toArray, List.set_cons_zero, List.set_cons_succ]
    rfl
  refine pure_ (i := 2) (N := some 22) (v := ?_) (a' := ?_) #[true, false, true, false, false, false, false, false] rfl rfl (by kernel_rfl) (fun _ _ _ h => h) (Or.inl ⟨by rfl, ?_⟩) ?_ ?_
  rotate_left
  · intro w'
    go_simp
    with_reducible rfl
  rotate_left
  · simp only [Act.put, List.setIfInBounds_toArray, List.set_cons_zero, List.set_cons_succ]
    rfl
  refine take_ (i := 1) (N := some 21) (v := ?_) (a' := ?_) #[true, true, true, false, false, false, false, false] rfl rfl (by kernel_rfl) (fun _ _ _ h => h) (Or.inl ⟨by rfl, ?_⟩) hHeld ?_ ?_
  rotate_left
  · rintro w' ⟨s0, s1⟩
    refine ld_run _ 31 (.tmp 20) s0.out 6 #[.string q6, .int .i64 q7, .int .i64 q8, .int .i64 q9, .string q10].toList _ rfl ?_ hu3 rfl (by kernel_rfl) ?_ <;> rfl
  rotate_left
  · simp only [Act.put, List.setIfInBounds_toArray, List.set_cons_zero, List.set_cons_succ]
    rfl
  refine pure_ (i := 4) (N := some 24) (v := ?_) (a' := ?_) #[true, true, true, false, true, false, false, false] rfl rfl (by kernel_rfl) (fun _ _ _ h => h) (Or.inl ⟨by rfl, ?_⟩) ?_ ?_
  rotate_left
  · intro w'
    go_simp
    with_reducible rfl
  rotate_left
  · simp only [Act.put, List.setIfInBounds_toArray, List.set_cons_zero, List.set_cons_succ]
    rfl
  refine take_ (i := 3) (N := some 23) (v := ?_) (a' := ?_) #[true, true, true, true, true, false, false, false] rfl rfl (by kernel_rfl) (fun _ _ _ h => h) (Or.inl ⟨by rfl, ?_⟩) hHeld ?_ ?_
  rotate_left
  · rintro w' ⟨s0, s1⟩
    refine ld_run _ 29 (.tmp 22) s0.out 2 #[.int .i64 q2, .int .i64 q3, .int .i64 q4, .slice A n c].toList _ rfl ?_ hu2 rfl (by kernel_rfl) ?_ <;> rfl
  rotate_left
  · simp only [Act.put, List.setIfInBounds_toArray, List.set_cons_zero, List.set_cons_succ]
    rfl
  refine one_ (i := 5) (N := none) #[true, true, true, true, true, true, false, false] rfl rfl (by kernel_rfl) (by decide) (fun K hK => ?_)
  refine skip_ (by rfl) rfl (st_run _ 31 (.tmp 24) (.tmp 21) HX.out 6 #[.string q6, .int .i64 q7, .int .i64 q8, .int .i64 q9, .string q10] (by show 6 + 5 ≤ 14; decide) rfl rfl (by kernel_rfl) (by simp [Value.oneCell']) rfl) ?_
  have HX2 := Blk.setCells #[.string q6, .int .i64 q7, .int .i64 q8, .int .i64 q9, .string q10].toList 6 HX.out
  simp only [putA, List.setIfInBounds_toArray, List.set_cons_zero, List.set_cons_succ] at HX2
  replace HX2 := Aside0.mk HX2
  have HZ2 := Aside0.mk (Blk.setCells_other (g' := w.heap.size + 1 + 1) (by omega) #[.string q6, .int .i64 q7, .int .i64 q8, .int .i64 q9, .string q10].toList 6 HZ.out)
  have HR2 := Blk.setCells_other (g' := w.heap.size + 1 + 1) (by omega) #[.string q6, .int .i64 q7, .int .i64 q8, .int .i64 q9, .string q10].toList 6 hHeld.1.out
  have HB2 := below_setCells (g := w.heap.size + 1 + 1) (by omega) #[.string q6, .int .i64 q7, .int .i64 q8, .int .i64 q9, .string q10].toList 6 hHeld.2.out
  clear hHeld HX HZ HR HB
  generalize wd.drew.setCells (w.heap.size + 1 + 1) 6 #[.string q6, .int .i64 q7, .int .i64 q8, .int .i64 q9, .string q10].toList = we at *
  refine hK.out _ _ ⟨⟨HR2⟩, ⟨HB2⟩⟩ (fun hHeld => ?_)
  clear hK K
  refine pure_ (i := 6) (N := some 25) (v := ?_) (a' := ?_) #[true, true, true, true, true, true, true, false] rfl rfl (by kernel_rfl) (fun _ _ _ h => h) (Or.inl ⟨by rfl, ?_⟩) ?_ ?_
  rotate_left
  · intro w'
    go_simp
    with_reducible rfl
  rotate_left
  · simp only [Act.put, List.setIfInBounds_toArray, List.set_cons_zero, List.set_cons_succ]
    rfl
  refine last_ (i := 7) (N := none) #[true, true, true, true, true, true, true, true] rfl rfl (by kernel_rfl) (by decide) (fun K hK => ?_)
  refine skip_ (by rfl) rfl (st_run _ 29 (.tmp 25) (.tmp 23) HX2.out 2 #[.int .i64 q2, .int .i64 q3, .int .i64 q4, .slice A n c] (by show 2 + 4 ≤ 14; decide) rfl rfl (by kernel_rfl) (by simp [Value.oneCell']) rfl) ?_
  have HXF := Blk.setCells #[.int .i64 q2, .int .i64 q3, .int .i64 q4, .slice A n c].toList 2 HX2.out
  simp only [putA, List.setIfInBounds_toArray, List.set_cons_zero, List.set_cons_succ] at HXF
  replace HXF := Aside0.mk HXF
  have HZF := Aside0.mk (Blk.setCells_other (g' := w.heap.size + 1 + 1) (by omega) #[.int .i64 q2, .int .i64 q3, .int .i64 q4, .slice A n c].toList 2 HZ2.out)
  have HBF := Aside0.mk (below_setCells (g := w.heap.size + 1 + 1) (by omega) #[.int .i64 q2, .int .i64 q3, .int .i64 q4, .slice A n c].toList 2 HB2)
  clear hHeld HX2 HZ2 HR2 HB2
  generalize we.setCells (w.heap.size + 1 + 1) 2 #[.int .i64 q2, .int .i64 q3, .int .i64 q4, .slice A n c].toList = wf at *
  refine hK.out _ _ ?_
  clear hK K
  refine done_ (by kernel_rfl) ?_

  go_wp2_with (first | (refine gate_ (.load 55 (.tmp 3)) rfl ?_; refine wpList_load_mid rfl 55 (.tmp 3) rfl (w.heap.size + 1 + 1) 0 rfl #[.int .i64 q0, .int .i64 q1, .int .i64 q2, .int .i64 q3, .int .i64 q4, (.slice A n c), .string q6, .int .i64 q7, .int .i64 q8, .int .i64 q9, .string q10, .string ⟨#[]⟩, .int .i64 0, .int .i64 0].toList _ (HXF.out.range 0 _ rfl) hu1 rfl (by kernel_rfl) ?_; simp only [Act.put]) | (refine gate_ (.store 55 (.tmp 2) (.tmp 35)) rfl ?_; refine wpList_plain rfl (fun K hK => ?_); refine wp_store_row 55 (.tmp 2) (.tmp 35) rfl (w.heap.size + 1) #[.int .i64 q0, .int .i64 q1, .int .i64 q2, .int .i64 q3, .int .i64 q4, (.slice A n c), .string q6, .int .i64 q7, .int .i64 q8, .int .i64 q9, .string q10, .string ⟨#[]⟩, .int .i64 0, .int .i64 0] rfl rfl 55 #[.int .i64 0, .int .i64 0, .int .i64 0, .int .i64 0, .int .i64 0, (.slice none 0 0), .string ⟨#[]⟩, .int .i64 0, .int .i64 0, .int .i64 0, .string ⟨#[]⟩, .string ⟨#[]⟩, .int .i64 0, .int .i64 0] HZF.out (by kernel_rfl) rfl (by simp [Value.oneCell']) (hK _ _ ?_); clear hK K; simp only [Act.put]))
  refine bodyPost_ret (results_cell_row rfl _ _ (w.heap.size + 1) 55 #[.int .i64 q0, .int .i64 q1, .int .i64 q2, .int .i64 q3, .int .i64 q4, (.slice A n c), .string q6, .int .i64 q7, .int .i64 q8, .int .i64 q9, .string q10, .string ⟨#[]⟩, .int .i64 0, .int .i64 0] (0, 0) _ rfl (setRow_heap wf _ _ _ _ _ HZF.out) hu1 rfl (by kernel_rfl)) rfl ⟨rfl, below_setRow' HBF.out (by omega) _⟩
set_option maxRecDepth 100000 in
set_option maxHeartbeats 2000000 in
theorem named_3 (q0 q1 q2 q3 q4 : Int) (A : Option Addr) (n c : Nat) (q6 : ByteArray) (q7 q8 q9 : Int) (q10 q11 : ByteArray) (q12 q13 : Int) (w : World) (hk : q1 = 3) : Calls Try.prog 54 #[.agg #[.int .i64 q0, .int .i64 q1, .int .i64 q2, .int .i64 q3, .int .i64 q4, (.slice A n c), .string q6, .int .i64 q7, .int .i64 q8, .int .i64 q9, .string q10, .string q11, .int .i64 q12, .int .i64 q13]] w fun e w' => e = .returned (.agg #[.int .i64 q0, .int .i64 q1, .int .i64 q2, .int .i64 q3, .int .i64 q4, (.slice A n c), .string ⟨#[]⟩, .int .i64 0, .int .i64 0, .int .i64 0, .string ⟨#[]⟩, .string ⟨#[]⟩, .int .i64 q12, .int .i64 q13]) ∧ Below w.heap.size w w' := by
  have hu0 := Try.underlying33
  have hu1 := Try.underlying55
  have hu2 := Try.underlying29
  have hu3 := Try.underlying31
  have hu4 := Try.underlying83
  have f1 : (q1 == 1) = false := by simp [hk]
  have f0 : (q1 == 0) = false := by simp [hk]
  have f3 : (q1 == 3) = true := by simp [hk]
  clear hk
  have HR := Aside0.mk (show Blk ((((w.alloc (.cells #[.int .i64 q0, .int .i64 q1, .int .i64 q2, .int .i64 q3, .int .i64 q4, (.slice A n c), .string q6, .int .i64 q7, .int .i64 q8, .int .i64 q9, .string q10, .string q11, .int .i64 q12, .int .i64 q13] 55)).alloc (.cells #[.int .i64 0, .int .i64 0, .int .i64 0, .int .i64 0, .int .i64 0, (.slice none 0 0), .string ⟨#[]⟩, .int .i64 0, .int .i64 0, .int .i64 0, .string ⟨#[]⟩, .string ⟨#[]⟩, .int .i64 0, .int .i64 0] 55)).alloc (.cells #[.int .i64 q0, .int .i64 q1, .int .i64 0, .int .i64 0, .int .i64 0, (.slice none 0 0), .string ⟨#[]⟩, .int .i64 0, .int .i64 0, .int .i64 0, .string ⟨#[]⟩, .string ⟨#[]⟩, .int .i64 0, .int .i64 0] 55)).drew) w.heap.size #[.int .i64 q0, .int .i64 q1, .int .i64 q2, .int .i64 q3, .int .i64 q4, (.slice A n c), .string q6, .int .i64 q7, .int .i64 q8, .int .i64 q9, .string q10, .string q11, .int .i64 q12, .int .i64 q13] 55 from ((Blk.new w _ _).alloc _).alloc _)
  have HZ := Aside0.mk (show Blk ((((w.alloc (.cells #[.int .i64 q0, .int .i64 q1, .int .i64 q2, .int .i64 q3, .int .i64 q4, (.slice A n c), .string q6, .int .i64 q7, .int .i64 q8, .int .i64 q9, .string q10, .string q11, .int .i64 q12, .int .i64 q13] 55)).alloc (.cells #[.int .i64 0, .int .i64 0, .int .i64 0, .int .i64 0, .int .i64 0, (.slice none 0 0), .string ⟨#[]⟩, .int .i64 0, .int .i64 0, .int .i64 0, .string ⟨#[]⟩, .string ⟨#[]⟩, .int .i64 0, .int .i64 0] 55)).alloc (.cells #[.int .i64 q0, .int .i64 q1, .int .i64 0, .int .i64 0, .int .i64 0, (.slice none 0 0), .string ⟨#[]⟩, .int .i64 0, .int .i64 0, .int .i64 0, .string ⟨#[]⟩, .string ⟨#[]⟩, .int .i64 0, .int .i64 0] 55)).drew) (w.heap.size + 1) #[.int .i64 0, .int .i64 0, .int .i64 0, .int .i64 0, .int .i64 0, (.slice none 0 0), .string ⟨#[]⟩, .int .i64 0, .int .i64 0, .int .i64 0, .string ⟨#[]⟩, .string ⟨#[]⟩, .int .i64 0, .int .i64 0] 55 from (blk2 w _ _ _).alloc _)
  have HX := Aside0.mk (show Blk ((((w.alloc (.cells #[.int .i64 q0, .int .i64 q1, .int .i64 q2, .int .i64 q3, .int .i64 q4, (.slice A n c), .string q6, .int .i64 q7, .int .i64 q8, .int .i64 q9, .string q10, .string q11, .int .i64 q12, .int .i64 q13] 55)).alloc (.cells #[.int .i64 0, .int .i64 0, .int .i64 0, .int .i64 0, .int .i64 0, (.slice none 0 0), .string ⟨#[]⟩, .int .i64 0, .int .i64 0, .int .i64 0, .string ⟨#[]⟩, .string ⟨#[]⟩, .int .i64 0, .int .i64 0] 55)).alloc (.cells #[.int .i64 q0, .int .i64 q1, .int .i64 0, .int .i64 0, .int .i64 0, (.slice none 0 0), .string ⟨#[]⟩, .int .i64 0, .int .i64 0, .int .i64 0, .string ⟨#[]⟩, .string ⟨#[]⟩, .int .i64 0, .int .i64 0] 55)).drew) (w.heap.size + 1 + 1) #[.int .i64 q0, .int .i64 q1, .int .i64 0, .int .i64 0, .int .i64 0, (.slice none 0 0), .string ⟨#[]⟩, .int .i64 0, .int .i64 0, .int .i64 0, .string ⟨#[]⟩, .string ⟨#[]⟩, .int .i64 0, .int .i64 0] 55 from blk3 w _ _ _ _)
  have HB := Aside0.mk (Below.drew (below_alloc3 w (.cells #[.int .i64 q0, .int .i64 q1, .int .i64 q2, .int .i64 q3, .int .i64 q4, (.slice A n c), .string q6, .int .i64 q7, .int .i64 q8, .int .i64 q9, .string q10, .string q11, .int .i64 q12, .int .i64 q13] 55) (.cells #[.int .i64 0, .int .i64 0, .int .i64 0, .int .i64 0, .int .i64 0, (.slice none 0 0), .string ⟨#[]⟩, .int .i64 0, .int .i64 0, .int .i64 0, .string ⟨#[]⟩, .string ⟨#[]⟩, .int .i64 0, .int .i64 0] 55) (.cells #[.int .i64 q0, .int .i64 q1, .int .i64 0, .int .i64 0, .int .i64 0, (.slice none 0 0), .string ⟨#[]⟩, .int .i64 0, .int .i64 0, .int .i64 0, .string ⟨#[]⟩, .string ⟨#[]⟩, .int .i64 0, .int .i64 0] 55)))
  go_enter Try.func54, Try.ntmps54
  go_wp2_with fail
  generalize (((w.alloc (.cells #[.int .i64 q0, .int .i64 q1, .int .i64 q2, .int .i64 q3, .int .i64 q4, (.slice A n c), .string q6, .int .i64 q7, .int .i64 q8, .int .i64 q9, .string q10, .string q11, .int .i64 q12, .int .i64 q13] 55)).alloc (.cells #[.int .i64 0, .int .i64 0, .int .i64 0, .int .i64 0, .int .i64 0, (.slice none 0 0), .string ⟨#[]⟩, .int .i64 0, .int .i64 0, .int .i64 0, .string ⟨#[]⟩, .string ⟨#[]⟩, .int .i64 0, .int .i64 0] 55)).alloc (.cells #[.int .i64 q0, .int .i64 q1, .int .i64 0, .int .i64 0, .int .i64 0, (.slice none 0 0), .string ⟨#[]⟩, .int .i64 0, .int .i64 0, .int .i64 0, .string ⟨#[]⟩, .string ⟨#[]⟩, .int .i64 0, .int .i64 0] 55)) = wd at *
  refine start_ (n := 8) (S := fun w' => w'.cell? ⟨w.heap.size, 12, none⟩ = some (.int .i64 q12) ∧ w'.cell? ⟨w.heap.size, 13, none⟩ = some (.int .i64 q13)) (ds := [7]) #[false, false, false, false, false, false, false, false] (by kernel_rfl) rfl rfl ⟨(HR.out.cell (i := 12) (v := .int .i64 q12) rfl), (HR.out.cell (i := 13) (v := .int .i64 q13) rfl)⟩ (fun hHeld => ?_)
  refine pure_ (i := 0) (N := some 26) (v := ?_) (a' := ?_) #[true, false, false, false, false, false, false, false] rfl rfl (by kernel_rfl) (fun _ _ _ h => h) (Or.inl ⟨by rfl, ?_⟩) ?_ ?_
  rotate_left
  · intro w'
    go_simp
    with_reducible rfl
  rotate_left
  · simp only [Act.put, List.setIfInBounds_toArray, List.set_cons_zero, List.set_cons_succ]
    rfl
  refine pure_ (i := 2) (N := some 28) (v := ?_) (a' := ?_) #[true, false, true, false, false, false, false, false] rfl rfl (by kernel_rfl) (fun _ _ _ h => h) (Or.inl ⟨by rfl, ?_⟩) ?_ ?_
  rotate_left
  · intro w'
    go_simp
    with_reducible rfl
  rotate_left
  · simp only [Act.put, List.setIfInBounds_toArray, List.set_cons_zero, List.set_cons_succ]
    rfl
  refine take_ (i := 1) (N := some 27) (v := ?_) (a' := ?_) #[true, true, true, false, false, false, false, false] rfl rfl (by kernel_rfl) (fun _ _ _ h => h) (Or.inl ⟨by rfl, ?_⟩) hHeld ?_ ?_
  rotate_left
  · rintro w' ⟨s0, s1⟩
    go_simp
    with_reducible rfl
  rotate_left
  · simp only [Act.put, List.setIfInBounds_toArray, List.set_cons_zero, List.set_cons_succ]
    rfl
  refine pure_ (i := 4) (N := some 30) (v := ?_) (a' := ?_) #[true, true, true, false, true, false, false, false] rfl rfl (by kernel_rfl) (fun _ _ _ h => h) (Or.inl ⟨by rfl, ?_⟩) ?_ ?_
  rotate_left
  · intro w'
    go_simp
    with_reducible rfl
  rotate_left
  · simp only [Act.put, List.setIfInBounds_toArray, List.set_cons_zero, List.set_cons_succ]
    rfl
  refine take_ (i := 3) (N := some 29) (v := ?_) (a' := ?_) #[true, true, true, true, true, false, false, false] rfl rfl (by kernel_rfl) (fun _ _ _ h => h) (Or.inl ⟨by rfl, ?_⟩) hHeld ?_ ?_
  rotate_left
  · rintro w' ⟨s0, s1⟩
    go_simp
    with_reducible rfl
  rotate_left
  · simp only [Act.put, List.setIfInBounds_toArray, List.set_cons_zero, List.set_cons_succ]
    rfl
  refine one_ (i := 5) (N := none) #[true, true, true, true, true, true, false, false] rfl rfl (by kernel_rfl) (by decide) (fun K hK => ?_)
  have hc12 := HX.out.cell (i := 12) (v := .int .i64 0) rfl
  have hf12 := HX.out.free 12
  refine skip_ (w1 := ?_) (by rfl) rfl ?_ ?_
  rotate_left
  · go_simp
    rfl
  clear hc12 hf12
  have HX2 := Aside0.mk (show Blk ((wd.setCell ⟨w.heap.size + 1 + 1, 12, none⟩ (.int .i64 q12)).drew) (w.heap.size + 1 + 1) #[.int .i64 q0, .int .i64 q1, .int .i64 0, .int .i64 0, .int .i64 0, (.slice none 0 0), .string ⟨#[]⟩, .int .i64 0, .int .i64 0, .int .i64 0, .string ⟨#[]⟩, .string ⟨#[]⟩, .int .i64 q12, .int .i64 0] 55 from HX.out.set 12 (.int .i64 q12))
  have HZ2 := Aside0.mk (show Blk ((wd.setCell ⟨w.heap.size + 1 + 1, 12, none⟩ (.int .i64 q12)).drew) (w.heap.size + 1) #[.int .i64 0, .int .i64 0, .int .i64 0, .int .i64 0, .int .i64 0, (.slice none 0 0), .string ⟨#[]⟩, .int .i64 0, .int .i64 0, .int .i64 0, .string ⟨#[]⟩, .string ⟨#[]⟩, .int .i64 0, .int .i64 0] 55 from HZ.out.other (g' := w.heap.size + 1 + 1) (by omega) 12 (.int .i64 q12))
  have HR2 := Aside0.mk (show Blk ((wd.setCell ⟨w.heap.size + 1 + 1, 12, none⟩ (.int .i64 q12)).drew) w.heap.size #[.int .i64 q0, .int .i64 q1, .int .i64 q2, .int .i64 q3, .int .i64 q4, (.slice A n c), .string q6, .int .i64 q7, .int .i64 q8, .int .i64 q9, .string q10, .string q11, .int .i64 q12, .int .i64 q13] 55 from HR.out.other (g' := w.heap.size + 1 + 1) (by omega) 12 (.int .i64 q12))
  have HB2 := Aside0.mk (show Below w.heap.size w ((wd.setCell ⟨w.heap.size + 1 + 1, 12, none⟩ (.int .i64 q12)).drew) from Below.setCell HB.out (p := ⟨w.heap.size + 1 + 1, 12, none⟩) (by show w.heap.size ≤ w.heap.size + 1 + 1; omega) (.int .i64 q12))
  clear hHeld HX HZ HR HB
  generalize (wd.setCell ⟨w.heap.size + 1 + 1, 12, none⟩ (.int .i64 q12)).drew = we at *
  refine hK.out _ _ ⟨(HR2.out.cell (i := 12) (v := .int .i64 q12) rfl), (HR2.out.cell (i := 13) (v := .int .i64 q13) rfl)⟩ (fun hHeld => ?_)
  clear hK K
  refine pure_ (i := 6) (N := some 31) (v := ?_) (a' := ?_) #[true, true, true, true, true, true, true, false] rfl rfl (by kernel_rfl) (fun _ _ _ h => h) (Or.inl ⟨by rfl, ?_⟩) ?_ ?_
  rotate_left
  · intro w'
    go_simp
    with_reducible rfl
  rotate_left
  · simp only [Act.put, List.setIfInBounds_toArray, List.set_cons_zero, List.set_cons_succ]
    rfl
  refine last_ (i := 7) (N := none) #[true, true, true, true, true, true, true, true] rfl rfl (by kernel_rfl) (by decide) (fun K hK => ?_)
  have hc13 := HX2.out.cell (i := 13) (v := .int .i64 0) rfl
  have hf13 := HX2.out.free 13
  refine skip_ (w1 := ?_) (by rfl) rfl ?_ ?_
  rotate_left
  · go_simp
    rfl
  clear hc13 hf13
  have HXF := Aside0.mk (show Blk (we.setCell ⟨w.heap.size + 1 + 1, 13, none⟩ (.int .i64 q13)) (w.heap.size + 1 + 1) #[.int .i64 q0, .int .i64 q1, .int .i64 0, .int .i64 0, .int .i64 0, (.slice none 0 0), .string ⟨#[]⟩, .int .i64 0, .int .i64 0, .int .i64 0, .string ⟨#[]⟩, .string ⟨#[]⟩, .int .i64 q12, .int .i64 q13] 55 from HX2.out.set 13 (.int .i64 q13))
  have HZF := Aside0.mk (HZ2.out.other (g' := w.heap.size + 1 + 1) (by omega) 13 (.int .i64 q13))
  have HRF := Aside0.mk (HR2.out.other (g' := w.heap.size + 1 + 1) (by omega) 13 (.int .i64 q13))
  have HBF := Aside0.mk (HB2.out.setCell (p := ⟨w.heap.size + 1 + 1, 13, none⟩) (by show w.heap.size ≤ w.heap.size + 1 + 1; omega) (.int .i64 q13))
  clear hHeld HX2 HZ2 HR2 HB2
  generalize we.setCell ⟨w.heap.size + 1 + 1, 13, none⟩ (.int .i64 q13) = wf at *
  refine hK.out _ _ ?_
  clear hK K
  refine done_ (by kernel_rfl) ?_

  go_wp2_with (first | (refine gate_ (.load 29 (.tmp 32)) rfl ?_; refine wpList_load_mid rfl 29 (.tmp 32) rfl (w.heap.size) 2 rfl #[.int .i64 q2, .int .i64 q3, .int .i64 q4, .slice A n c].toList _ (HRF.out.range 2 _ rfl) hu2 rfl (by kernel_rfl) ?_; simp only [Act.put]) | (refine gate_ (.store 29 (.tmp 34) (.tmp 33)) rfl ?_; refine wpList_store_mid rfl 29 (.tmp 34) (.tmp 33) rfl (w.heap.size + 1 + 1) 2 #[.int .i64 q2, .int .i64 q3, .int .i64 q4, .slice A n c] rfl rfl (HXF.out.there 2 _ (by show 2 + 4 ≤ 14; decide)) (by kernel_rfl) (by simp [Value.oneCell']) ?_; simp only [Act.put]; have HXG := Blk.setCells #[.int .i64 q2, .int .i64 q3, .int .i64 q4, .slice A n c].toList 2 HXF.out; simp only [putA, List.setIfInBounds_toArray, List.set_cons_zero, List.set_cons_succ] at HXG; replace HXG := Aside0.mk HXG; have HZG := Aside0.mk (Blk.setCells_other (g' := w.heap.size + 1 + 1) (by omega) #[.int .i64 q2, .int .i64 q3, .int .i64 q4, .slice A n c].toList 2 HZF.out); have HBG := Aside0.mk (below_setCells (g := w.heap.size + 1 + 1) (by omega) #[.int .i64 q2, .int .i64 q3, .int .i64 q4, .slice A n c].toList 2 HBF.out); clear HXF HZF HBF HRF; generalize wf.setCells (w.heap.size + 1 + 1) 2 #[.int .i64 q2, .int .i64 q3, .int .i64 q4, .slice A n c].toList = wg at HXG HZG HBG ⊢) | (refine gate_ (.load 55 (.tmp 3)) rfl ?_; refine wpList_load_mid rfl 55 (.tmp 3) rfl (w.heap.size + 1 + 1) 0 rfl #[.int .i64 q0, .int .i64 q1, .int .i64 q2, .int .i64 q3, .int .i64 q4, (.slice A n c), .string ⟨#[]⟩, .int .i64 0, .int .i64 0, .int .i64 0, .string ⟨#[]⟩, .string ⟨#[]⟩, .int .i64 q12, .int .i64 q13].toList _ (HXG.out.range 0 _ rfl) hu1 rfl (by kernel_rfl) ?_; simp only [Act.put]) | (refine gate_ (.store 55 (.tmp 2) (.tmp 35)) rfl ?_; refine wpList_plain rfl (fun K hK => ?_); refine wp_store_row 55 (.tmp 2) (.tmp 35) rfl (w.heap.size + 1) #[.int .i64 q0, .int .i64 q1, .int .i64 q2, .int .i64 q3, .int .i64 q4, (.slice A n c), .string ⟨#[]⟩, .int .i64 0, .int .i64 0, .int .i64 0, .string ⟨#[]⟩, .string ⟨#[]⟩, .int .i64 q12, .int .i64 q13] rfl rfl 55 #[.int .i64 0, .int .i64 0, .int .i64 0, .int .i64 0, .int .i64 0, (.slice none 0 0), .string ⟨#[]⟩, .int .i64 0, .int .i64 0, .int .i64 0, .string ⟨#[]⟩, .string ⟨#[]⟩, .int .i64 0, .int .i64 0] HZG.out (by kernel_rfl) rfl (by simp [Value.oneCell']) (hK _ _ ?_); clear hK K; simp only [Act.put]))
  refine bodyPost_ret (results_cell_row rfl _ _ (w.heap.size + 1) 55 #[.int .i64 q0, .int .i64 q1, .int .i64 q2, .int .i64 q3, .int .i64 q4, (.slice A n c), .string ⟨#[]⟩, .int .i64 0, .int .i64 0, .int .i64 0, .string ⟨#[]⟩, .string ⟨#[]⟩, .int .i64 q12, .int .i64 q13] (0, 0) _ rfl (setRow_heap wg _ _ _ _ _ HZG.out) hu1 rfl (by kernel_rfl)) rfl ⟨rfl, below_setRow' HBG.out (by omega) _⟩
end Go.Proofs.Ytmfcbfgijimliaa
end
section
namespace Go.Proofs.Ytmfcbfgijimliaa
open Go.RowKit
def runStep (a : Act) (o : Oper) : Option Act :=
  match o.op with
  | .move x => some (a.put o.dst (a.eval x))
  | .assign x => some (a.put o.dst (a.eval x))
  | .pick c x y => (match a.eval c with | .bool b => some (a.put o.dst (if b then a.eval x else a.eval y)) | _ => none)
  | _ => none
def runRest (ops : Array Oper) : List Oper → Act → Option Act
  | [], a => some a
  | o :: l, a => if Region.wanted o (yielded ops a.tmps) then (runStep a o).bind (runRest ops l) else runRest ops l (a.put o.dst undef)
theorem quiet_runStep {P : Program} {C : World → Prop} {a a' : Act} {o : Oper} {K : Act → Prop} (h : runStep a o = some a') (hK : K a') : o.quiet P a C K := by
  unfold runStep at h
  split at h
  · rename_i x ho
    cases h
    exact BigFrame.quiet_move x ho hK
  · rename_i x ho
    cases h
    exact BigFrame.quiet_assign x ho hK
  · rename_i c x y ho
    split at h
    · rename_i b hb
      cases h
      refine ⟨_, fun w _ => ?_, hK⟩
      unfold Oper.quietAt execOp
      simp only [ho, hb]
      exact ⟨rfl, rfl⟩
    · cases h
  · cases h
theorem wpQuiet_run {P : Program} {ops : Array Oper} {C : World → Prop} {Q : Act → Prop} : ∀ (l : List Oper) (a a' : Act), runRest ops l a = some a' → Q a' → wpQuiet P ops C Q l a
  | [], a, a', h, hQ => by cases h; exact hQ
  | o :: l, a, a', h, hQ => by
    unfold runRest at h
    split at h
    · rename_i hw
      obtain ⟨a1, h1, h2⟩ := Option.bind_eq_some_iff.1 h
      exact BigFrame.wpQuiet_want hw (fun K hK => quiet_runStep h1 (hK _ (wpQuiet_run l a1 a' h2 hQ)))
    · rename_i hw
      exact BigFrame.wpQuiet_skip (by simpa using hw) (wpQuiet_run l _ a' h hQ)
theorem wpQuiet_slot {P : Program} {ops : Array Oper} {C : World → Prop} {Q : Act → Prop} (R : Nat) (v : Value) {l : List Oper} {a : Act} (h : (runRest ops l a).map (fun a' => (a'.tmps.getD R undef, a'.defers)) = some (v, a.defers))
    (hQ : ∀ a' : Act, a'.tmps.getD R undef = v → a'.defers = a.defers → Q a') : wpQuiet P ops C Q l a := by
  obtain ⟨a', h1, h2⟩ := Option.map_eq_some_iff.1 h
  refine wpQuiet_run l a a' h1 (hQ a' ?_ ?_)
  · exact congrArg Prod.fst h2
  · exact congrArg Prod.snd h2
end Go.Proofs.Ytmfcbfgijimliaa
end
section
namespace Go.Proofs.Ytmfcbfgijimliaa
open Go.RowKit Q Go.Proofs.YtmfcbfgijimliaaW.PrintWords Go.Proofs.YtmfcbfgijimliaaW.PrintLast Go.Proofs.YtmfcbfgijimliaaW.PrintMore
theorem eqEnt (d : Nat) (w : World) (x0 y0 : ByteArray) (x1 y1 x2 y2 x3 y3 : Int) (x4 y4 : ByteArray) : (Op.equalIn (d + 2) 31 (.agg #[.string x0, .int .i64 x1, .int .i64 x2, .int .i64 x3, .string x4]) (.agg #[.string y0, .int .i64 y1, .int .i64 y2, .int .i64 y3, .string y4])).run Try.prog w = .ok (x0.toList == y0.toList && (x1 == y1 && (x2 == y2 && (x3 == y3 && (x4.toList == y4.toList))))) w := by
  refine eqA_of Try.underlying31 (by kernel_rfl) ?_
  refine eqf_cons (by rfl) (by go_simp; rfl) (by go_simp; rfl) (by go_simp) ?_
  refine eqf_cons (by rfl) (by go_simp; rfl) (by go_simp; rfl) (by go_simp) ?_
  refine eqf_cons (by rfl) (by go_simp; rfl) (by go_simp; rfl) (by go_simp) ?_
  refine eqf_cons (by rfl) (by go_simp; rfl) (by go_simp; rfl) (by go_simp) ?_
  exact eqf_last (by rfl) (by go_simp; rfl) (by go_simp; rfl) (by go_simp)
attribute [local go_sem high] eqEnt
theorem ld_slS (ad : Addr) (v : Value) (w : World) (h : w.cell? ad = some v) : (Instr.loadAt 27 (.pointer (some ad))).run Try.prog w = .ok v w := by
  go_simp
theorem sameA (p0 p1 p2 p3 p4 : Int) (p5 : List S83) (p6 : ByteArray) (p7 p8 p9 : Int) (p10 p11 : ByteArray) (p12 p13 : Int) (q0 q1 q2 q3 q4 : Int) (q5 : List S83) (q6 : ByteArray) (q7 q8 q9 : Int) (q10 q11 : ByteArray) (q12 q13 : Int) : decide ((⟨p0, p1, p2, p3, p4, p5, p6, p7, p8, p9, p10, p11, p12, p13⟩ : RecP) = (⟨q0, q1, q2, q3, q4, q5, q6, q7, q8, q9, q10, q11, q12, q13⟩ : RecP)) = ((p0 == q0) && ((p1 == q1) && ((p2 == q2) && ((p3 == q3) && ((p4 == q4) && (locsEq p5 q5 && ((p6.toList == q6.toList && (p7 == q7 && (p8 == q8 && (p9 == q9 && (p10.toList == q10.toList))))) && ((p11.toList == q11.toList) && ((p12 == q12) && ((p13 == q13))))))))))) := by
  rw [Bool.eq_iff_iff]
  simp only [decide_eq_true_eq, Bool.and_eq_true, beq_iff_eq, locsEq_iff, bytes_iff, RecP.mk.injEq]
  constructor
  · rintro ⟨h0, h1, h2, h3, h4, h5, h6, h7, h8, h9, h10, h11, h12, h13⟩
    exact ⟨h0, h1, h2, h3, h4, h5, ⟨h6, h7, h8, h9, h10⟩, h11, h12, h13⟩
  · rintro ⟨h0, h1, h2, h3, h4, h5, ⟨h6, h7, h8, h9, h10⟩, h11, h12, h13⟩
    exact ⟨h0, h1, h2, h3, h4, h5, h6, h7, h8, h9, h10, h11, h12, h13⟩
theorem and_end (a b : Bool) (h : a = false) : (a && b) = false := by rw [h]; rfl
theorem and_on (a b : Bool) (h : a = true) : (a && b) = b := by rw [h]; rfl
set_option maxRecDepth 100000 in
set_option maxHeartbeats 4000000 in
theorem same_walk (p0 p1 p2 p3 p4 : Int) (p5 : List S83) (p6 : ByteArray) (p7 p8 p9 : Int) (p10 p11 : ByteArray) (p12 p13 : Int) (q0 q1 q2 q3 q4 : Int) (q5 : List S83) (q6 : ByteArray) (q7 q8 q9 : Int) (q10 q11 : ByteArray) (q12 q13 : Int) (A D : Option Addr) (c d : Nat) (w : World) (ha : Kd.C k83 w A p5.length p5) (hb : Kd.C k83 w D q5.length q5) (hca : p5.length ≤ c) (hcb : q5.length ≤ d) (h1 : p5.length ≤ 1000) : Calls Try.prog 29 #[.agg #[.int .i64 p0, .int .i64 p1, .int .i64 p2, .int .i64 p3, .int .i64 p4, (.slice A p5.length c), .string p6, .int .i64 p7, .int .i64 p8, .int .i64 p9, .string p10, .string p11, .int .i64 p12, .int .i64 p13], .agg #[.int .i64 q0, .int .i64 q1, .int .i64 q2, .int .i64 q3, .int .i64 q4, (.slice D q5.length d), .string q6, .int .i64 q7, .int .i64 q8, .int .i64 q9, .string q10, .string q11, .int .i64 q12, .int .i64 q13]] w fun e w' => e = .returned (.bool (decide ((⟨p0, p1, p2, p3, p4, p5, p6, p7, p8, p9, p10, p11, p12, p13⟩ : RecP) = (⟨q0, q1, q2, q3, q4, q5, q6, q7, q8, q9, q10, q11, q12, q13⟩ : RecP)))) ∧ Below w.heap.size w w' := by
  have hu0 := Try.underlying33
  have hu1 := Try.underlying55
  have hu2 := Try.underlying29
  have hu3 := Try.underlying31
  have hu4 := Try.underlying83
  have HF := Lib.hid (sameA p0 p1 p2 p3 p4 p5 p6 p7 p8 p9 p10 p11 p12 p13 q0 q1 q2 q3 q4 q5 q6 q7 q8 q9 q10 q11 q12 q13)
  generalize (decide ((⟨p0, p1, p2, p3, p4, p5, p6, p7, p8, p9, p10, p11, p12, p13⟩ : RecP) = (⟨q0, q1, q2, q3, q4, q5, q6, q7, q8, q9, q10, q11, q12, q13⟩ : RecP))) = res at HF ⊢
  have HCa := Lib.hid ha
  have HCb := Lib.hid hb
  have HA := Lib.hid hca
  have HD := Lib.hid hcb
  have H1 := Lib.hid h1
  clear ha hb hca hcb h1
  have HB : Aside0 (Below w.heap.size w ((w.alloc (.cells #[.int .i64 p0, .int .i64 p1, .int .i64 p2, .int .i64 p3, .int .i64 p4, (.slice A p5.length c), .string p6, .int .i64 p7, .int .i64 p8, .int .i64 p9, .string p10, .string p11, .int .i64 p12, .int .i64 p13] 55)).alloc (.cells #[.int .i64 q0, .int .i64 q1, .int .i64 q2, .int .i64 q3, .int .i64 q4, (.slice D q5.length d), .string q6, .int .i64 q7, .int .i64 q8, .int .i64 q9, .string q10, .string q11, .int .i64 q12, .int .i64 q13] 55))) := ⟨below_alloc (below_alloc (Below.refl _ _) _) _⟩
  have HP : Aside0 (Blk ((w.alloc (.cells #[.int .i64 p0, .int .i64 p1, .int .i64 p2, .int .i64 p3, .int .i64 p4, (.slice A p5.length c), .string p6, .int .i64 p7, .int .i64 p8, .int .i64 p9, .string p10, .string p11, .int .i64 p12, .int .i64 p13] 55)).alloc (.cells #[.int .i64 q0, .int .i64 q1, .int .i64 q2, .int .i64 q3, .int .i64 q4, (.slice D q5.length d), .string q6, .int .i64 q7, .int .i64 q8, .int .i64 q9, .string q10, .string q11, .int .i64 q12, .int .i64 q13] 55)) w.heap.size #[.int .i64 p0, .int .i64 p1, .int .i64 p2, .int .i64 p3, .int .i64 p4, (.slice A p5.length c), .string p6, .int .i64 p7, .int .i64 p8, .int .i64 p9, .string p10, .string p11, .int .i64 p12, .int .i64 p13] 55) := ⟨(Blk.new w _ _).alloc _⟩
  have HQ : Aside0 (Blk ((w.alloc (.cells #[.int .i64 p0, .int .i64 p1, .int .i64 p2, .int .i64 p3, .int .i64 p4, (.slice A p5.length c), .string p6, .int .i64 p7, .int .i64 p8, .int .i64 p9, .string p10, .string p11, .int .i64 p12, .int .i64 p13] 55)).alloc (.cells #[.int .i64 q0, .int .i64 q1, .int .i64 q2, .int .i64 q3, .int .i64 q4, (.slice D q5.length d), .string q6, .int .i64 q7, .int .i64 q8, .int .i64 q9, .string q10, .string q11, .int .i64 q12, .int .i64 q13] 55)) (w.heap.size + 1) #[.int .i64 q0, .int .i64 q1, .int .i64 q2, .int .i64 q3, .int .i64 q4, (.slice D q5.length d), .string q6, .int .i64 q7, .int .i64 q8, .int .i64 q9, .string q10, .string q11, .int .i64 q12, .int .i64 q13] 55) := ⟨by have := Blk.new (w.alloc (.cells #[.int .i64 p0, .int .i64 p1, .int .i64 p2, .int .i64 p3, .int .i64 p4, (.slice A p5.length c), .string p6, .int .i64 p7, .int .i64 p8, .int .i64 p9, .string p10, .string p11, .int .i64 p12, .int .i64 p13] 55)) #[.int .i64 q0, .int .i64 q1, .int .i64 q2, .int .i64 q3, .int .i64 q4, (.slice D q5.length d), .string q6, .int .i64 q7, .int .i64 q8, .int .i64 q9, .string q10, .string q11, .int .i64 q12, .int .i64 q13] 55; rwa [World.size_alloc] at this⟩
  go_enter Try.func29, Try.ntmps29
  iterate 17 go_step
  try simp only [List.append_eq, List.cons_append, List.nil_append]
  rename_i Q' K hK
  refine list_quiet ?_
  have HK : ∀ (a' : Act) w' v, res = v → a'.tmps.getD 4 undef = .bool v → a'.defers = [] → Below ((w.alloc (.cells #[.int .i64 p0, .int .i64 p1, .int .i64 p2, .int .i64 p3, .int .i64 p4, (.slice A p5.length c), .string p6, .int .i64 p7, .int .i64 p8, .int .i64 p9, .string p10, .string p11, .int .i64 p12, .int .i64 p13] 55)).alloc (.cells #[.int .i64 q0, .int .i64 q1, .int .i64 q2, .int .i64 q3, .int .i64 q4, (.slice D q5.length d), .string q6, .int .i64 q7, .int .i64 q8, .int .i64 q9, .string q10, .string q11, .int .i64 q12, .int .i64 q13] 55)).heap.size ((w.alloc (.cells #[.int .i64 p0, .int .i64 p1, .int .i64 p2, .int .i64 p3, .int .i64 p4, (.slice A p5.length c), .string p6, .int .i64 p7, .int .i64 p8, .int .i64 p9, .string p10, .string p11, .int .i64 p12, .int .i64 p13] 55)).alloc (.cells #[.int .i64 q0, .int .i64 q1, .int .i64 q2, .int .i64 q3, .int .i64 q4, (.slice D q5.length d), .string q6, .int .i64 q7, .int .i64 q8, .int .i64 q9, .string q10, .string q11, .int .i64 q12, .int .i64 q13] 55)) w' → Exit.then K Q' Exit.normal a' w' := by
    rintro a' w' v rfl h4 hd hb
    refine hK a' w' (wp_ret ?_)
    exact bodyPost_ret (results_tmp rfl _ _ _) hd ⟨congrArg _ h4, below2 HB.out HB.out.size hb⟩
  clear hK
  clear hu0 hu1 hu4
  repeat (first | go_big_quiet_step (fail) | (refine BigFrame.wpQuiet_want (by rfl) (fun K hK => ?_); go_big_quiet_op; refine ⟨_, fun _ _ => rfl, hK _ ?_⟩; clear hK K) | (refine q_rdw 3 _ _ ⟨w.heap.size, 0, none⟩ _ rfl rfl (by rfl) rfl (fun w' hw' => ld_int _ _ w' ((HP.out.keep hw').cell (i := 0) rfl)) ?_; simp only [Act.put, List.setIfInBounds_toArray, List.set_cons_zero, List.set_cons_succ]) | (refine q_rdw 3 _ _ ⟨w.heap.size + 1, 0, none⟩ _ rfl rfl (by rfl) rfl (fun w' hw' => ld_int _ _ w' ((HQ.out.keep hw').cell (i := 0) rfl)) ?_; simp only [Act.put, List.setIfInBounds_toArray, List.set_cons_zero, List.set_cons_succ]))
  cases x0 : (p0 == q0)
  · exact wpQuiet_slot 4 (.bool false) (by kernel_rfl) (fun a' ha hd w' hw' => HK a' w' _ (HF.out.trans (and_end _ _ x0)) ha hd hw')
  repeat (first | go_big_quiet_step (fail) | (refine BigFrame.wpQuiet_want (by rfl) (fun K hK => ?_); go_big_quiet_op; refine ⟨_, fun _ _ => rfl, hK _ ?_⟩; clear hK K) | (refine q_rdw 3 _ _ ⟨w.heap.size, 1, none⟩ _ rfl rfl (by rfl) rfl (fun w' hw' => ld_int _ _ w' ((HP.out.keep hw').cell (i := 1) rfl)) ?_; simp only [Act.put, List.setIfInBounds_toArray, List.set_cons_zero, List.set_cons_succ]) | (refine q_rdw 3 _ _ ⟨w.heap.size + 1, 1, none⟩ _ rfl rfl (by rfl) rfl (fun w' hw' => ld_int _ _ w' ((HQ.out.keep hw').cell (i := 1) rfl)) ?_; simp only [Act.put, List.setIfInBounds_toArray, List.set_cons_zero, List.set_cons_succ]))
  cases x1 : (p1 == q1)
  · exact wpQuiet_slot 4 (.bool false) (by kernel_rfl) (fun a' ha hd w' hw' => HK a' w' _ (HF.out.trans ((and_on _ _ x0).trans (and_end _ _ x1))) ha hd hw')
  repeat (first | go_big_quiet_step (fail) | (refine BigFrame.wpQuiet_want (by rfl) (fun K hK => ?_); go_big_quiet_op; refine ⟨_, fun _ _ => rfl, hK _ ?_⟩; clear hK K) | (refine q_rdw 3 _ _ ⟨w.heap.size, 2, none⟩ _ rfl rfl (by rfl) rfl (fun w' hw' => ld_int _ _ w' ((HP.out.keep hw').cell (i := 2) rfl)) ?_; simp only [Act.put, List.setIfInBounds_toArray, List.set_cons_zero, List.set_cons_succ]) | (refine q_rdw 3 _ _ ⟨w.heap.size + 1, 2, none⟩ _ rfl rfl (by rfl) rfl (fun w' hw' => ld_int _ _ w' ((HQ.out.keep hw').cell (i := 2) rfl)) ?_; simp only [Act.put, List.setIfInBounds_toArray, List.set_cons_zero, List.set_cons_succ]))
  cases x2 : (p2 == q2)
  · exact wpQuiet_slot 4 (.bool false) (by kernel_rfl) (fun a' ha hd w' hw' => HK a' w' _ (HF.out.trans ((and_on _ _ x0).trans ((and_on _ _ x1).trans (and_end _ _ x2)))) ha hd hw')
  repeat (first | go_big_quiet_step (fail) | (refine BigFrame.wpQuiet_want (by rfl) (fun K hK => ?_); go_big_quiet_op; refine ⟨_, fun _ _ => rfl, hK _ ?_⟩; clear hK K) | (refine q_rdw 3 _ _ ⟨w.heap.size, 3, none⟩ _ rfl rfl (by rfl) rfl (fun w' hw' => ld_int _ _ w' ((HP.out.keep hw').cell (i := 3) rfl)) ?_; simp only [Act.put, List.setIfInBounds_toArray, List.set_cons_zero, List.set_cons_succ]) | (refine q_rdw 3 _ _ ⟨w.heap.size + 1, 3, none⟩ _ rfl rfl (by rfl) rfl (fun w' hw' => ld_int _ _ w' ((HQ.out.keep hw').cell (i := 3) rfl)) ?_; simp only [Act.put, List.setIfInBounds_toArray, List.set_cons_zero, List.set_cons_succ]))
  cases x3 : (p3 == q3)
  · exact wpQuiet_slot 4 (.bool false) (by kernel_rfl) (fun a' ha hd w' hw' => HK a' w' _ (HF.out.trans ((and_on _ _ x0).trans ((and_on _ _ x1).trans ((and_on _ _ x2).trans (and_end _ _ x3))))) ha hd hw')
  repeat (first | go_big_quiet_step (fail) | (refine BigFrame.wpQuiet_want (by rfl) (fun K hK => ?_); go_big_quiet_op; refine ⟨_, fun _ _ => rfl, hK _ ?_⟩; clear hK K) | (refine q_rdw 3 _ _ ⟨w.heap.size, 4, none⟩ _ rfl rfl (by rfl) rfl (fun w' hw' => ld_int _ _ w' ((HP.out.keep hw').cell (i := 4) rfl)) ?_; simp only [Act.put, List.setIfInBounds_toArray, List.set_cons_zero, List.set_cons_succ]) | (refine q_rdw 3 _ _ ⟨w.heap.size + 1, 4, none⟩ _ rfl rfl (by rfl) rfl (fun w' hw' => ld_int _ _ w' ((HQ.out.keep hw').cell (i := 4) rfl)) ?_; simp only [Act.put, List.setIfInBounds_toArray, List.set_cons_zero, List.set_cons_succ]))
  cases x4 : (p4 == q4)
  · exact wpQuiet_slot 4 (.bool false) (by kernel_rfl) (fun a' ha hd w' hw' => HK a' w' _ (HF.out.trans ((and_on _ _ x0).trans ((and_on _ _ x1).trans ((and_on _ _ x2).trans ((and_on _ _ x3).trans (and_end _ _ x4)))))) ha hd hw')
  repeat (first | go_big_quiet_step (fail) | (refine BigFrame.wpQuiet_want (by rfl) (fun K hK => ?_); go_big_quiet_op; refine ⟨_, fun _ _ => rfl, hK _ ?_⟩; clear hK K) | (refine q_rdw 27 _ _ ⟨w.heap.size, 5, none⟩ _ rfl rfl (by rfl) rfl (fun w' hw' => ld_slS _ _ w' ((HP.out.keep hw').cell (i := 5) rfl)) ?_; simp only [Act.put, List.setIfInBounds_toArray, List.set_cons_zero, List.set_cons_succ]) | (refine q_rdw 27 _ _ ⟨w.heap.size + 1, 5, none⟩ _ rfl rfl (by rfl) rfl (fun w' hw' => ld_slS _ _ w' ((HQ.out.keep hw').cell (i := 5) rfl)) ?_; simp only [Act.put, List.setIfInBounds_toArray, List.set_cons_zero, List.set_cons_succ]) | (refine q_gow (f := 46) Try.func46 (by kernel_rfl) rfl #[.slice A p5.length c, .slice D q5.length d] (.bool (locsEq p5 q5)) _ rfl rfl (by rfl) (by simp only [List.map_toArray, List.map_cons, List.map_nil]; rfl) (fun w' hw' => (api_Loc.calls 1001 A c p5 D d q5 _ w' (Kd.C_below HCa.out (below2 HB.out HB.out.size hw')) HA.out (Kd.C_below HCb.out (below2 HB.out HB.out.size hw')) HD.out (locs_f p5 q5 H1.out 1001 (Nat.le_refl _))).mono (fun e w'' h => ⟨h.1, h.2.below⟩)) ?_; simp only [Act.put, List.setIfInBounds_toArray, List.set_cons_zero, List.set_cons_succ]))
  cases x5 : locsEq p5 q5
  · exact wpQuiet_slot 4 (.bool false) (by kernel_rfl) (fun a' ha hd w' hw' => HK a' w' _ (HF.out.trans ((and_on _ _ x0).trans ((and_on _ _ x1).trans ((and_on _ _ x2).trans ((and_on _ _ x3).trans ((and_on _ _ x4).trans (and_end _ _ x5))))))) ha hd hw')
  repeat (first | go_big_quiet_step (fail) | (refine BigFrame.wpQuiet_want (by rfl) (fun K hK => ?_); go_big_quiet_op; refine ⟨_, fun _ _ => rfl, hK _ ?_⟩; clear hK K) | (refine q_rdw 31 _ _ ⟨w.heap.size, 6, none⟩ (.agg #[.string p6, .int .i64 p7, .int .i64 p8, .int .i64 p9, .string p10]) rfl rfl (by rfl) rfl (fun w' hw' => run_loadAt_mid w' (w.heap.size) 6 31 #[.string p6, .int .i64 p7, .int .i64 p8, .int .i64 p9, .string p10].toList _ ((HP.out.keep hw').range 6 _ rfl) hu3 rfl (by kernel_rfl)) ?_; simp only [Act.put, List.setIfInBounds_toArray, List.set_cons_zero, List.set_cons_succ]) | (refine q_rdw 31 _ _ ⟨w.heap.size + 1, 6, none⟩ (.agg #[.string q6, .int .i64 q7, .int .i64 q8, .int .i64 q9, .string q10]) rfl rfl (by rfl) rfl (fun w' hw' => run_loadAt_mid w' (w.heap.size + 1) 6 31 #[.string q6, .int .i64 q7, .int .i64 q8, .int .i64 q9, .string q10].toList _ ((HQ.out.keep hw').range 6 _ rfl) hu3 rfl (by kernel_rfl)) ?_; simp only [Act.put, List.setIfInBounds_toArray, List.set_cons_zero, List.set_cons_succ]))
  cases x6 : (p6.toList == q6.toList && (p7 == q7 && (p8 == q8 && (p9 == q9 && (p10.toList == q10.toList)))))
  · exact wpQuiet_slot 4 (.bool false) (by kernel_rfl) (fun a' ha hd w' hw' => HK a' w' _ (HF.out.trans ((and_on _ _ x0).trans ((and_on _ _ x1).trans ((and_on _ _ x2).trans ((and_on _ _ x3).trans ((and_on _ _ x4).trans ((and_on _ _ x5).trans (and_end _ _ x6)))))))) ha hd hw')
  repeat (first | go_big_quiet_step (fail) | (refine BigFrame.wpQuiet_want (by rfl) (fun K hK => ?_); go_big_quiet_op; refine ⟨_, fun _ _ => rfl, hK _ ?_⟩; clear hK K) | (refine q_rdw 9 _ _ ⟨w.heap.size, 11, none⟩ _ rfl rfl (by rfl) rfl (fun w' hw' => ld_str _ _ w' ((HP.out.keep hw').cell (i := 11) rfl)) ?_; simp only [Act.put, List.setIfInBounds_toArray, List.set_cons_zero, List.set_cons_succ]) | (refine q_rdw 9 _ _ ⟨w.heap.size + 1, 11, none⟩ _ rfl rfl (by rfl) rfl (fun w' hw' => ld_str _ _ w' ((HQ.out.keep hw').cell (i := 11) rfl)) ?_; simp only [Act.put, List.setIfInBounds_toArray, List.set_cons_zero, List.set_cons_succ]))
  cases x7 : (p11.toList == q11.toList)
  · exact wpQuiet_slot 4 (.bool false) (by kernel_rfl) (fun a' ha hd w' hw' => HK a' w' _ (HF.out.trans ((and_on _ _ x0).trans ((and_on _ _ x1).trans ((and_on _ _ x2).trans ((and_on _ _ x3).trans ((and_on _ _ x4).trans ((and_on _ _ x5).trans ((and_on _ _ x6).trans (and_end _ _ x7))))))))) ha hd hw')
  repeat (first | go_big_quiet_step (fail) | (refine BigFrame.wpQuiet_want (by rfl) (fun K hK => ?_); go_big_quiet_op; refine ⟨_, fun _ _ => rfl, hK _ ?_⟩; clear hK K) | (refine q_rdw 3 _ _ ⟨w.heap.size, 12, none⟩ _ rfl rfl (by rfl) rfl (fun w' hw' => ld_int _ _ w' ((HP.out.keep hw').cell (i := 12) rfl)) ?_; simp only [Act.put, List.setIfInBounds_toArray, List.set_cons_zero, List.set_cons_succ]) | (refine q_rdw 3 _ _ ⟨w.heap.size + 1, 12, none⟩ _ rfl rfl (by rfl) rfl (fun w' hw' => ld_int _ _ w' ((HQ.out.keep hw').cell (i := 12) rfl)) ?_; simp only [Act.put, List.setIfInBounds_toArray, List.set_cons_zero, List.set_cons_succ]))
  cases x8 : (p12 == q12)
  · exact wpQuiet_slot 4 (.bool false) (by kernel_rfl) (fun a' ha hd w' hw' => HK a' w' _ (HF.out.trans ((and_on _ _ x0).trans ((and_on _ _ x1).trans ((and_on _ _ x2).trans ((and_on _ _ x3).trans ((and_on _ _ x4).trans ((and_on _ _ x5).trans ((and_on _ _ x6).trans ((and_on _ _ x7).trans (and_end _ _ x8)))))))))) ha hd hw')
  repeat (first | go_big_quiet_step (fail) | (refine BigFrame.wpQuiet_want (by rfl) (fun K hK => ?_); go_big_quiet_op; refine ⟨_, fun _ _ => rfl, hK _ ?_⟩; clear hK K) | (refine q_rdw 3 _ _ ⟨w.heap.size, 13, none⟩ _ rfl rfl (by rfl) rfl (fun w' hw' => ld_int _ _ w' ((HP.out.keep hw').cell (i := 13) rfl)) ?_; simp only [Act.put, List.setIfInBounds_toArray, List.set_cons_zero, List.set_cons_succ]) | (refine q_rdw 3 _ _ ⟨w.heap.size + 1, 13, none⟩ _ rfl rfl (by rfl) rfl (fun w' hw' => ld_int _ _ w' ((HQ.out.keep hw').cell (i := 13) rfl)) ?_; simp only [Act.put, List.setIfInBounds_toArray, List.set_cons_zero, List.set_cons_succ]))
  cases x9 : (p13 == q13)
  · exact wpQuiet_slot 4 (.bool false) (by kernel_rfl) (fun a' ha hd w' hw' => HK a' w' _ (HF.out.trans ((and_on _ _ x0).trans ((and_on _ _ x1).trans ((and_on _ _ x2).trans ((and_on _ _ x3).trans ((and_on _ _ x4).trans ((and_on _ _ x5).trans ((and_on _ _ x6).trans ((and_on _ _ x7).trans ((and_on _ _ x8).trans (x9))))))))))) ha hd hw')
  exact wpQuiet_slot 4 (.bool true) (by kernel_rfl) (fun a' ha hd w' hw' => HK a' w' _ (HF.out.trans ((and_on _ _ x0).trans ((and_on _ _ x1).trans ((and_on _ _ x2).trans ((and_on _ _ x3).trans ((and_on _ _ x4).trans ((and_on _ _ x5).trans ((and_on _ _ x6).trans ((and_on _ _ x7).trans ((and_on _ _ x8).trans (x9))))))))))) ha hd hw')
theorem sames_calls (a b : RecP) (Aa Ab : Option Addr) (ca cb : Nat) (w : World) (ha : Kd.C k83 w Aa a.locs.length a.locs) (hb : Kd.C k83 w Ab b.locs.length b.locs) (hca : a.locs.length ≤ ca) (hcb : b.locs.length ≤ cb) (h1 : a.locs.length ≤ 1000) : Calls Try.prog 29 #[.agg #[.int .i64 a.seq, .int .i64 a.kind, .int .i64 a.id, .int .i64 a.gen, .int .i64 a.len, (.slice Aa a.locs.length ca), .string a.ekey, .int .i64 a.evol, .int .i64 a.eoff, .int .i64 a.elen, .string a.dig, .string a.key, .int .i64 a.frm, .int .i64 a.til], .agg #[.int .i64 b.seq, .int .i64 b.kind, .int .i64 b.id, .int .i64 b.gen, .int .i64 b.len, (.slice Ab b.locs.length cb), .string b.ekey, .int .i64 b.evol, .int .i64 b.eoff, .int .i64 b.elen, .string b.dig, .string b.key, .int .i64 b.frm, .int .i64 b.til]] w fun e w' => e = .returned (.bool (decide (a = b))) ∧ Below w.heap.size w w' :=
  same_walk a.seq a.kind a.id a.gen a.len a.locs a.ekey a.evol a.eoff a.elen a.dig a.key a.frm a.til b.seq b.kind b.id b.gen b.len b.locs b.ekey b.evol b.eoff b.elen b.dig b.key b.frm b.til Aa Ab ca cb w ha hb hca hcb h1
end Go.Proofs.Ytmfcbfgijimliaa
end
section
namespace Go.Proofs.Ytmfcbfgijimliaa
open Go.RowKit Q Go.Proofs.YtmfcbfgijimliaaW.PrintWords Go.Proofs.YtmfcbfgijimliaaW.PrintLast Go.Proofs.YtmfcbfgijimliaaW.PrintMore
theorem plain_calls (s : ByteArray) (w : World) : Calls Try.prog 53 #[.string s] w fun e w' => e = .returned (.bool (plainK s.data.toList)) ∧ Below w.heap.size w w' := by
  go_enter Try.func53, Try.ntmps53
  go_wp2_with fail
  have h := nchk_calls s.data.toList [] (by decide) w
  rw [B_eta, chkN_plain] at h
  refine Calls.mono h ?_
  rintro e w1 ⟨rfl, b1⟩
  cases hq : plainK s.data.toList with
  | false =>
    rw [if_neg (by decide)]
    go_wp2_with fail
    go_ret
    exact ⟨by rw [hq]; rfl, b1⟩
  | true =>
    rw [if_pos rfl]
    go_wp2_with fail
    go_ret
    exact ⟨by rw [hq]; rfl, b1⟩
def namedP (r : RecP) : RecP :=
  if r.kind = 1 then ⟨r.seq, r.kind, 0, 0, 0, [], ⟨#[]⟩, 0, 0, 0, ⟨#[]⟩, r.key, 0, 0⟩
  else if r.kind = 0 then ⟨r.seq, r.kind, r.id, r.gen, r.len, r.locs, r.ekey, r.evol, r.eoff, r.elen, r.dig, ⟨#[]⟩, 0, 0⟩
  else if r.kind = 3 then ⟨r.seq, r.kind, r.id, r.gen, r.len, r.locs, ⟨#[]⟩, 0, 0, 0, ⟨#[]⟩, ⟨#[]⟩, r.frm, r.til⟩
  else ⟨r.seq, r.kind, r.id, r.gen, r.len, r.locs, ⟨#[]⟩, 0, 0, 0, ⟨#[]⟩, ⟨#[]⟩, 0, 0⟩
def finP (r : RecP) : Int := if decide (namedP r = r) = true then 0 else 1
def volR (r : RecP) : Bool := volP r.id r.gen r.len r.locs
def chkR (r : RecP) : Int :=
  if inB r.seq 63 = true then (
    if r.kind = 0 then (if volR r = true then (if plainK r.ekey.data.toList = true then (if (r.evol == r.id) = true then (if inB r.eoff r.len = true then (if inB r.elen (wrap64 (r.len - r.eoff)) = true then (if ((r.dig.size : Int) == 32) = true then finP r else 1) else 1) else 1) else 1) else 11) else 1)
    else if r.kind = 1 then (if plainK r.key.data.toList = true then finP r else 11)
    else if r.kind = 2 then (if volR r = true then finP r else 1)
    else if r.kind = 3 then (if volR r = true then (if inB r.frm 1099511627776 = true then (if inB r.til 1099511627776 = true then (if (r.frm == r.til) = true then 1 else finP r) else 1) else 1) else 1)
    else 1)
  else 1
set_option maxRecDepth 100000 in
set_option maxHeartbeats 4000000 in
theorem rchk_0 (q0 q2 q3 q4 : Int) (A : Option Addr) (c : Nat) (l : List S83) (q6 : ByteArray) (q7 q8 q9 : Int) (q10 q11 : ByteArray) (q12 q13 : Int) (w : World) (hr : Kd.C k83 w A l.length l) (hl : l.length ≤ 1000) (hc : l.length ≤ c) : Calls Try.prog 31 #[.agg #[.int .i64 q0, .int .i64 0, .int .i64 q2, .int .i64 q3, .int .i64 q4, (.slice A l.length c), .string q6, .int .i64 q7, .int .i64 q8, .int .i64 q9, .string q10, .string q11, .int .i64 q12, .int .i64 q13]] w fun e w' => e = .returned (.int .i64 (chkR (⟨q0, 0, q2, q3, q4, l, q6, q7, q8, q9, q10, q11, q12, q13⟩ : RecP))) ∧ Below w.heap.size w w' := by
  have hu0 := Try.underlying33
  have hu1 := Try.underlying55
  have hu2 := Try.underlying29
  have hu3 := Try.underlying31
  have hu4 := Try.underlying83
  have HF := Lib.hid (show chkR (⟨q0, 0, q2, q3, q4, l, q6, q7, q8, q9, q10, q11, q12, q13⟩ : RecP) = if inB q0 63 = true then (if volR (⟨q0, 0, q2, q3, q4, l, q6, q7, q8, q9, q10, q11, q12, q13⟩ : RecP) = true then (if plainK q6.data.toList = true then (if (q7 == q2) = true then (if inB q8 q4 = true then (if inB q9 (wrap64 (q4 - q8)) = true then (if ((q10.size : Int) == 32) = true then finP (⟨q0, 0, q2, q3, q4, l, q6, q7, q8, q9, q10, q11, q12, q13⟩ : RecP) else 1) else 1) else 1) else 1) else 11) else 1) else 1 from rfl)
  have HC := Lib.hid hr
  have HL := Lib.hid hl
  have HCC := Lib.hid hc
  clear hr hl hc
  have HB : Aside0 (Below w.heap.size w ((w.alloc (.cells #[.int .i64 q0, .int .i64 0, .int .i64 q2, .int .i64 q3, .int .i64 q4, (.slice A l.length c), .string q6, .int .i64 q7, .int .i64 q8, .int .i64 q9, .string q10, .string q11, .int .i64 q12, .int .i64 q13] 55)).alloc (.cells #[.string q6, .int .i64 q7, .int .i64 q8, .int .i64 q9, .string q10] 31))) := ⟨below_alloc2 w _ _⟩
  have HR : Aside0 (Blk ((w.alloc (.cells #[.int .i64 q0, .int .i64 0, .int .i64 q2, .int .i64 q3, .int .i64 q4, (.slice A l.length c), .string q6, .int .i64 q7, .int .i64 q8, .int .i64 q9, .string q10, .string q11, .int .i64 q12, .int .i64 q13] 55)).alloc (.cells #[.string q6, .int .i64 q7, .int .i64 q8, .int .i64 q9, .string q10] 31)) w.heap.size #[.int .i64 q0, .int .i64 0, .int .i64 q2, .int .i64 q3, .int .i64 q4, (.slice A l.length c), .string q6, .int .i64 q7, .int .i64 q8, .int .i64 q9, .string q10, .string q11, .int .i64 q12, .int .i64 q13] 55) := ⟨(Blk.new w _ _).alloc _⟩
  have HE : Aside0 (Blk ((w.alloc (.cells #[.int .i64 q0, .int .i64 0, .int .i64 q2, .int .i64 q3, .int .i64 q4, (.slice A l.length c), .string q6, .int .i64 q7, .int .i64 q8, .int .i64 q9, .string q10, .string q11, .int .i64 q12, .int .i64 q13] 55)).alloc (.cells #[.string q6, .int .i64 q7, .int .i64 q8, .int .i64 q9, .string q10] 31)) (w.heap.size + 1) #[.string q6, .int .i64 q7, .int .i64 q8, .int .i64 q9, .string q10] 31) := ⟨blk2 w _ _ _⟩
  obtain ⟨d0, d1, d2, d3, d4, d5, _, _, _, _, _, d11, d12, d13⟩ := cells14 HR.out
  obtain ⟨e0, e1, e2, e3, e4⟩ := cells5 HE.out
  go_enter Try.func31, Try.ntmps31
  cases h0 : inB q0 63 with
  | false =>
    go_wp2_with fail
    clear d0 d1 d2 d3 d4 d5 d11 d12 d13 e0 e1 e2 e3 e4
    refine (in_calls _ _ _).mono ?_
    rintro e w1 ⟨rfl, b1⟩
    rw [h0]
    replace HB := Aside0.mk (below2 HB.out HB.out.size b1)
    replace HR := Aside0.mk (HR.out.keep b1)
    replace HE := Aside0.mk (HE.out.keep b1)
    clear b1
    obtain ⟨d0, d1, d2, d3, d4, d5, _, _, _, _, _, d11, d12, d13⟩ := cells14 HR.out
    obtain ⟨e0, e1, e2, e3, e4⟩ := cells5 HE.out
    go_wp2_with fail
    go_ret
    exact ⟨by rw [HF.out, if_neg (by rw [h0]; decide)]; rfl, HB.out⟩
  | true =>
    go_wp2_with fail
    clear d0 d1 d2 d3 d4 d5 d11 d12 d13 e0 e1 e2 e3 e4
    refine (in_calls _ _ _).mono ?_
    rintro e w1 ⟨rfl, b1⟩
    rw [h0]
    replace HB := Aside0.mk (below2 HB.out HB.out.size b1)
    replace HR := Aside0.mk (HR.out.keep b1)
    replace HE := Aside0.mk (HE.out.keep b1)
    clear b1
    obtain ⟨d0, d1, d2, d3, d4, d5, _, _, _, _, _, d11, d12, d13⟩ := cells14 HR.out
    obtain ⟨e0, e1, e2, e3, e4⟩ := cells5 HE.out
    go_wp2_with fail
    clear d0 d1 d2 d3 d4 d5 d11 d12 d13 e0 e1 e2 e3 e4
    refine (in_calls _ _ _).mono ?_
    rintro e w1 ⟨rfl, b1⟩
    rw [show inB 0 3 = true from rfl]
    replace HB := Aside0.mk (below2 HB.out HB.out.size b1)
    replace HR := Aside0.mk (HR.out.keep b1)
    replace HE := Aside0.mk (HE.out.keep b1)
    clear b1
    obtain ⟨d0, d1, d2, d3, d4, d5, _, _, _, _, _, d11, d12, d13⟩ := cells14 HR.out
    obtain ⟨e0, e1, e2, e3, e4⟩ := cells5 HE.out
    cases h2 : volR (⟨q0, 0, q2, q3, q4, l, q6, q7, q8, q9, q10, q11, q12, q13⟩ : RecP) with
    | false =>
      go_wp2_with fail
      clear d0 d1 d2 d3 d4 d5 d11 d12 d13 e0 e1 e2 e3 e4
      refine (vol_calls q2 q3 q4 A l.length c l _ (Kd.C_below HC.out HB.out) rfl HL.out).mono ?_
      rintro e w1 ⟨rfl, b1⟩
      rw [show volP q2 q3 q4 l = false from h2]
      replace HB := Aside0.mk (below2 HB.out HB.out.size b1)
      replace HR := Aside0.mk (HR.out.keep b1)
      replace HE := Aside0.mk (HE.out.keep b1)
      clear b1
      obtain ⟨d0, d1, d2, d3, d4, d5, _, _, _, _, _, d11, d12, d13⟩ := cells14 HR.out
      obtain ⟨e0, e1, e2, e3, e4⟩ := cells5 HE.out
      go_wp2_with fail
      go_ret
      exact ⟨by rw [HF.out, if_pos h0, if_neg (by rw [h2]; decide)]; rfl, HB.out⟩
    | true =>
      go_wp2_with fail
      clear d0 d1 d2 d3 d4 d5 d11 d12 d13 e0 e1 e2 e3 e4
      refine (vol_calls q2 q3 q4 A l.length c l _ (Kd.C_below HC.out HB.out) rfl HL.out).mono ?_
      rintro e w1 ⟨rfl, b1⟩
      rw [show volP q2 q3 q4 l = true from h2]
      replace HB := Aside0.mk (below2 HB.out HB.out.size b1)
      replace HR := Aside0.mk (HR.out.keep b1)
      replace HE := Aside0.mk (HE.out.keep b1)
      clear b1
      obtain ⟨d0, d1, d2, d3, d4, d5, _, _, _, _, _, d11, d12, d13⟩ := cells14 HR.out
      obtain ⟨e0, e1, e2, e3, e4⟩ := cells5 HE.out
      cases h3 : plainK q6.data.toList with
      | false =>
        go_wp2_with fail
        clear d0 d1 d2 d3 d4 d5 d11 d12 d13 e0 e1 e2 e3 e4
        refine (plain_calls q6 _).mono ?_
        rintro e w1 ⟨rfl, b1⟩
        rw [h3]
        replace HB := Aside0.mk (below2 HB.out HB.out.size b1)
        replace HR := Aside0.mk (HR.out.keep b1)
        replace HE := Aside0.mk (HE.out.keep b1)
        clear b1
        obtain ⟨d0, d1, d2, d3, d4, d5, _, _, _, _, _, d11, d12, d13⟩ := cells14 HR.out
        obtain ⟨e0, e1, e2, e3, e4⟩ := cells5 HE.out
        go_wp2_with fail
        go_ret
        exact ⟨by rw [HF.out, if_pos h0, if_pos h2, if_neg (by rw [h3]; decide)]; rfl, HB.out⟩
      | true =>
        go_wp2_with fail
        clear d0 d1 d2 d3 d4 d5 d11 d12 d13 e0 e1 e2 e3 e4
        refine (plain_calls q6 _).mono ?_
        rintro e w1 ⟨rfl, b1⟩
        rw [h3]
        replace HB := Aside0.mk (below2 HB.out HB.out.size b1)
        replace HR := Aside0.mk (HR.out.keep b1)
        replace HE := Aside0.mk (HE.out.keep b1)
        clear b1
        obtain ⟨d0, d1, d2, d3, d4, d5, _, _, _, _, _, d11, d12, d13⟩ := cells14 HR.out
        obtain ⟨e0, e1, e2, e3, e4⟩ := cells5 HE.out
        cases h4 : (q7 == q2) with
        | false =>
          have h4n : (q7 != q2) = true := by simp [bne, h4]
          go_wp2_with fail
          go_ret
          exact ⟨by rw [HF.out, if_pos h0, if_pos h2, if_pos h3, if_neg (by rw [h4]; decide)]; rfl, HB.out⟩
        | true =>
          have h4n : (q7 != q2) = false := by simp [bne, h4]
          cases h5 : inB q8 q4 with
          | false =>
            go_wp2_with fail
            clear d0 d1 d2 d3 d4 d5 d11 d12 d13 e0 e1 e2 e3 e4
            refine (in_calls _ _ _).mono ?_
            rintro e w1 ⟨rfl, b1⟩
            rw [h5]
            replace HB := Aside0.mk (below2 HB.out HB.out.size b1)
            replace HR := Aside0.mk (HR.out.keep b1)
            replace HE := Aside0.mk (HE.out.keep b1)
            clear b1
            obtain ⟨d0, d1, d2, d3, d4, d5, _, _, _, _, _, d11, d12, d13⟩ := cells14 HR.out
            obtain ⟨e0, e1, e2, e3, e4⟩ := cells5 HE.out
            go_wp2_with fail
            go_ret
            exact ⟨by rw [HF.out, if_pos h0, if_pos h2, if_pos h3, if_pos h4, if_neg (by rw [h5]; decide)]; rfl, HB.out⟩
          | true =>
            go_wp2_with fail
            clear d0 d1 d2 d3 d4 d5 d11 d12 d13 e0 e1 e2 e3 e4
            refine (in_calls _ _ _).mono ?_
            rintro e w1 ⟨rfl, b1⟩
            rw [h5]
            replace HB := Aside0.mk (below2 HB.out HB.out.size b1)
            replace HR := Aside0.mk (HR.out.keep b1)
            replace HE := Aside0.mk (HE.out.keep b1)
            clear b1
            obtain ⟨d0, d1, d2, d3, d4, d5, _, _, _, _, _, d11, d12, d13⟩ := cells14 HR.out
            obtain ⟨e0, e1, e2, e3, e4⟩ := cells5 HE.out
            cases h6 : inB q9 (wrap64 (q4 - q8)) with
            | false =>
              go_wp2_with fail
              clear d0 d1 d2 d3 d4 d5 d11 d12 d13 e0 e1 e2 e3 e4
              refine (in_calls _ _ _).mono ?_
              rintro e w1 ⟨rfl, b1⟩
              rw [h6]
              replace HB := Aside0.mk (below2 HB.out HB.out.size b1)
              replace HR := Aside0.mk (HR.out.keep b1)
              replace HE := Aside0.mk (HE.out.keep b1)
              clear b1
              obtain ⟨d0, d1, d2, d3, d4, d5, _, _, _, _, _, d11, d12, d13⟩ := cells14 HR.out
              obtain ⟨e0, e1, e2, e3, e4⟩ := cells5 HE.out
              go_wp2_with fail
              go_ret
              exact ⟨by rw [HF.out, if_pos h0, if_pos h2, if_pos h3, if_pos h4, if_pos h5, if_neg (by rw [h6]; decide)]; rfl, HB.out⟩
            | true =>
              go_wp2_with fail
              clear d0 d1 d2 d3 d4 d5 d11 d12 d13 e0 e1 e2 e3 e4
              refine (in_calls _ _ _).mono ?_
              rintro e w1 ⟨rfl, b1⟩
              rw [h6]
              replace HB := Aside0.mk (below2 HB.out HB.out.size b1)
              replace HR := Aside0.mk (HR.out.keep b1)
              replace HE := Aside0.mk (HE.out.keep b1)
              clear b1
              obtain ⟨d0, d1, d2, d3, d4, d5, _, _, _, _, _, d11, d12, d13⟩ := cells14 HR.out
              obtain ⟨e0, e1, e2, e3, e4⟩ := cells5 HE.out
              cases h7 : ((q10.size : Int) == 32) with
              | false =>
                have h7n : ((q10.size : Int) != 32) = true := by simp [bne, h7]
                go_wp2_with fail
                go_ret
                exact ⟨by rw [HF.out, if_pos h0, if_pos h2, if_pos h3, if_pos h4, if_pos h5, if_pos h6, if_neg (by rw [h7]; decide)]; rfl, HB.out⟩
              | true =>
                have h7n : ((q10.size : Int) != 32) = false := by simp [bne, h7]
                go_wp2_with fail
                obtain ⟨qq, hqq⟩ : ∃ qq, decide ((namedP (⟨q0, 0, q2, q3, q4, l, q6, q7, q8, q9, q10, q11, q12, q13⟩ : RecP)) = (⟨q0, 0, q2, q3, q4, l, q6, q7, q8, q9, q10, q11, q12, q13⟩ : RecP)) = qq := ⟨_, rfl⟩
                have HQ := Lib.hid hqq
                clear hqq
                clear d0 d1 d2 d3 d4 d5 d11 d12 d13 e0 e1 e2 e3 e4
                refine region_below_tail 5 (by kernel_rfl) (by kernel_rfl) ?_
                simp only [List.take_succ_cons, List.take_zero, List.drop_succ_cons, List.drop_zero]
                repeat (first | go_big_quiet_step (fail) | (refine BigFrame.wpQuiet_want (by rfl) (fun K hK => ?_); go_big_quiet_op; refine ⟨_, fun _ _ => rfl, hK _ ?_⟩; clear hK K) | (refine q_rdw 55 _ _ ⟨w.heap.size, 0, none⟩ (.agg #[.int .i64 q0, .int .i64 0, .int .i64 q2, .int .i64 q3, .int .i64 q4, (.slice A l.length c), .string q6, .int .i64 q7, .int .i64 q8, .int .i64 q9, .string q10, .string q11, .int .i64 q12, .int .i64 q13]) rfl rfl (by rfl) rfl (fun w' hw' => run_loadAt_mid w' w.heap.size 0 55 #[.int .i64 q0, .int .i64 0, .int .i64 q2, .int .i64 q3, .int .i64 q4, (.slice A l.length c), .string q6, .int .i64 q7, .int .i64 q8, .int .i64 q9, .string q10, .string q11, .int .i64 q12, .int .i64 q13].toList _ ((HR.out.keep hw').range 0 _ rfl) hu1 rfl (by kernel_rfl)) ?_; simp only [Act.put, List.setIfInBounds_toArray, List.set_cons_zero, List.set_cons_succ]) | (refine q_go (f := 54) Try.func54 (by kernel_rfl) rfl #[.agg #[.int .i64 q0, .int .i64 0, .int .i64 q2, .int .i64 q3, .int .i64 q4, (.slice A l.length c), .string q6, .int .i64 q7, .int .i64 q8, .int .i64 q9, .string q10, .string q11, .int .i64 q12, .int .i64 q13]] (.agg #[.int .i64 q0, .int .i64 0, .int .i64 q2, .int .i64 q3, .int .i64 q4, (.slice A l.length c), .string q6, .int .i64 q7, .int .i64 q8, .int .i64 q9, .string q10, .string ⟨#[]⟩, .int .i64 0, .int .i64 0]) _ rfl rfl rfl (by simp only [List.map_toArray, List.map_cons, List.map_nil]; rfl) (fun w' _ => named_0 q0 0 q2 q3 q4 A l.length c q6 q7 q8 q9 q10 q11 q12 q13 w' rfl) ?_; simp only [Act.put, List.setIfInBounds_toArray, List.set_cons_zero, List.set_cons_succ]) | (refine q_go (f := 29) Try.func29 (by kernel_rfl) rfl #[.agg #[.int .i64 q0, .int .i64 0, .int .i64 q2, .int .i64 q3, .int .i64 q4, (.slice A l.length c), .string q6, .int .i64 q7, .int .i64 q8, .int .i64 q9, .string q10, .string ⟨#[]⟩, .int .i64 0, .int .i64 0], .agg #[.int .i64 q0, .int .i64 0, .int .i64 q2, .int .i64 q3, .int .i64 q4, (.slice A l.length c), .string q6, .int .i64 q7, .int .i64 q8, .int .i64 q9, .string q10, .string q11, .int .i64 q12, .int .i64 q13]] (.bool (decide ((namedP (⟨q0, 0, q2, q3, q4, l, q6, q7, q8, q9, q10, q11, q12, q13⟩ : RecP)) = (⟨q0, 0, q2, q3, q4, l, q6, q7, q8, q9, q10, q11, q12, q13⟩ : RecP)))) _ rfl rfl rfl (by simp only [List.map_toArray, List.map_cons, List.map_nil]; rfl) (fun w' hw' => sames_calls (namedP (⟨q0, 0, q2, q3, q4, l, q6, q7, q8, q9, q10, q11, q12, q13⟩ : RecP)) (⟨q0, 0, q2, q3, q4, l, q6, q7, q8, q9, q10, q11, q12, q13⟩ : RecP) A A c c w' (Kd.C_below HC.out (below2 HB.out HB.out.size hw')) (Kd.C_below HC.out (below2 HB.out HB.out.size hw')) HCC.out HCC.out HL.out) ?_; rw [HQ.out]; simp only [Act.put, List.setIfInBounds_toArray, List.set_cons_zero, List.set_cons_succ]))
                refine wpQuiet_nil ?_
                intro wn hw'
                replace HB := Aside0.mk (below2 HB.out HB.out.size hw')
                clear hw'
                cases qq
                · go_wp2_with fail
                  go_ret
                  exact ⟨by rw [HF.out, if_pos h0, if_pos h2, if_pos h3, if_pos h4, if_pos h5, if_pos h6, if_pos h7]; unfold finP; rw [HQ.out]; rfl, HB.out⟩
                · go_wp2_with fail
                  go_ret
                  exact ⟨by rw [HF.out, if_pos h0, if_pos h2, if_pos h3, if_pos h4, if_pos h5, if_pos h6, if_pos h7]; unfold finP; rw [HQ.out]; rfl, HB.out⟩
set_option maxRecDepth 100000 in
set_option maxHeartbeats 4000000 in
theorem rchk_1 (q0 q2 q3 q4 : Int) (A : Option Addr) (c : Nat) (l : List S83) (q6 : ByteArray) (q7 q8 q9 : Int) (q10 q11 : ByteArray) (q12 q13 : Int) (w : World) (hr : Kd.C k83 w A l.length l) (hl : l.length ≤ 1000) (hc : l.length ≤ c) : Calls Try.prog 31 #[.agg #[.int .i64 q0, .int .i64 1, .int .i64 q2, .int .i64 q3, .int .i64 q4, (.slice A l.length c), .string q6, .int .i64 q7, .int .i64 q8, .int .i64 q9, .string q10, .string q11, .int .i64 q12, .int .i64 q13]] w fun e w' => e = .returned (.int .i64 (chkR (⟨q0, 1, q2, q3, q4, l, q6, q7, q8, q9, q10, q11, q12, q13⟩ : RecP))) ∧ Below w.heap.size w w' := by
  have hu0 := Try.underlying33
  have hu1 := Try.underlying55
  have hu2 := Try.underlying29
  have hu3 := Try.underlying31
  have hu4 := Try.underlying83
  have HF := Lib.hid (show chkR (⟨q0, 1, q2, q3, q4, l, q6, q7, q8, q9, q10, q11, q12, q13⟩ : RecP) = if inB q0 63 = true then (if plainK q11.data.toList = true then finP (⟨q0, 1, q2, q3, q4, l, q6, q7, q8, q9, q10, q11, q12, q13⟩ : RecP) else 11) else 1 from rfl)
  have HC := Lib.hid hr
  have HL := Lib.hid hl
  have HCC := Lib.hid hc
  clear hr hl hc
  have HB : Aside0 (Below w.heap.size w ((w.alloc (.cells #[.int .i64 q0, .int .i64 1, .int .i64 q2, .int .i64 q3, .int .i64 q4, (.slice A l.length c), .string q6, .int .i64 q7, .int .i64 q8, .int .i64 q9, .string q10, .string q11, .int .i64 q12, .int .i64 q13] 55)).alloc (.cells #[.string q6, .int .i64 q7, .int .i64 q8, .int .i64 q9, .string q10] 31))) := ⟨below_alloc2 w _ _⟩
  have HR : Aside0 (Blk ((w.alloc (.cells #[.int .i64 q0, .int .i64 1, .int .i64 q2, .int .i64 q3, .int .i64 q4, (.slice A l.length c), .string q6, .int .i64 q7, .int .i64 q8, .int .i64 q9, .string q10, .string q11, .int .i64 q12, .int .i64 q13] 55)).alloc (.cells #[.string q6, .int .i64 q7, .int .i64 q8, .int .i64 q9, .string q10] 31)) w.heap.size #[.int .i64 q0, .int .i64 1, .int .i64 q2, .int .i64 q3, .int .i64 q4, (.slice A l.length c), .string q6, .int .i64 q7, .int .i64 q8, .int .i64 q9, .string q10, .string q11, .int .i64 q12, .int .i64 q13] 55) := ⟨(Blk.new w _ _).alloc _⟩
  have HE : Aside0 (Blk ((w.alloc (.cells #[.int .i64 q0, .int .i64 1, .int .i64 q2, .int .i64 q3, .int .i64 q4, (.slice A l.length c), .string q6, .int .i64 q7, .int .i64 q8, .int .i64 q9, .string q10, .string q11, .int .i64 q12, .int .i64 q13] 55)).alloc (.cells #[.string q6, .int .i64 q7, .int .i64 q8, .int .i64 q9, .string q10] 31)) (w.heap.size + 1) #[.string q6, .int .i64 q7, .int .i64 q8, .int .i64 q9, .string q10] 31) := ⟨blk2 w _ _ _⟩
  obtain ⟨d0, d1, d2, d3, d4, d5, _, _, _, _, _, d11, d12, d13⟩ := cells14 HR.out
  obtain ⟨e0, e1, e2, e3, e4⟩ := cells5 HE.out
  go_enter Try.func31, Try.ntmps31
  cases h0 : inB q0 63 with
  | false =>
    go_wp2_with fail
    clear d0 d1 d2 d3 d4 d5 d11 d12 d13 e0 e1 e2 e3 e4
    refine (in_calls _ _ _).mono ?_
    rintro e w1 ⟨rfl, b1⟩
    rw [h0]
    replace HB := Aside0.mk (below2 HB.out HB.out.size b1)
    replace HR := Aside0.mk (HR.out.keep b1)
    replace HE := Aside0.mk (HE.out.keep b1)
    clear b1
    obtain ⟨d0, d1, d2, d3, d4, d5, _, _, _, _, _, d11, d12, d13⟩ := cells14 HR.out
    obtain ⟨e0, e1, e2, e3, e4⟩ := cells5 HE.out
    go_wp2_with fail
    go_ret
    exact ⟨by rw [HF.out, if_neg (by rw [h0]; decide)]; rfl, HB.out⟩
  | true =>
    go_wp2_with fail
    clear d0 d1 d2 d3 d4 d5 d11 d12 d13 e0 e1 e2 e3 e4
    refine (in_calls _ _ _).mono ?_
    rintro e w1 ⟨rfl, b1⟩
    rw [h0]
    replace HB := Aside0.mk (below2 HB.out HB.out.size b1)
    replace HR := Aside0.mk (HR.out.keep b1)
    replace HE := Aside0.mk (HE.out.keep b1)
    clear b1
    obtain ⟨d0, d1, d2, d3, d4, d5, _, _, _, _, _, d11, d12, d13⟩ := cells14 HR.out
    obtain ⟨e0, e1, e2, e3, e4⟩ := cells5 HE.out
    go_wp2_with fail
    clear d0 d1 d2 d3 d4 d5 d11 d12 d13 e0 e1 e2 e3 e4
    refine (in_calls _ _ _).mono ?_
    rintro e w1 ⟨rfl, b1⟩
    rw [show inB 1 3 = true from rfl]
    replace HB := Aside0.mk (below2 HB.out HB.out.size b1)
    replace HR := Aside0.mk (HR.out.keep b1)
    replace HE := Aside0.mk (HE.out.keep b1)
    clear b1
    obtain ⟨d0, d1, d2, d3, d4, d5, _, _, _, _, _, d11, d12, d13⟩ := cells14 HR.out
    obtain ⟨e0, e1, e2, e3, e4⟩ := cells5 HE.out
    cases h2 : plainK q11.data.toList with
    | false =>
      go_wp2_with fail
      clear d0 d1 d2 d3 d4 d5 d11 d12 d13 e0 e1 e2 e3 e4
      refine (plain_calls q11 _).mono ?_
      rintro e w1 ⟨rfl, b1⟩
      rw [h2]
      replace HB := Aside0.mk (below2 HB.out HB.out.size b1)
      replace HR := Aside0.mk (HR.out.keep b1)
      replace HE := Aside0.mk (HE.out.keep b1)
      clear b1
      obtain ⟨d0, d1, d2, d3, d4, d5, _, _, _, _, _, d11, d12, d13⟩ := cells14 HR.out
      obtain ⟨e0, e1, e2, e3, e4⟩ := cells5 HE.out
      go_wp2_with fail
      go_ret
      exact ⟨by rw [HF.out, if_pos h0, if_neg (by rw [h2]; decide)]; rfl, HB.out⟩
    | true =>
      go_wp2_with fail
      clear d0 d1 d2 d3 d4 d5 d11 d12 d13 e0 e1 e2 e3 e4
      refine (plain_calls q11 _).mono ?_
      rintro e w1 ⟨rfl, b1⟩
      rw [h2]
      replace HB := Aside0.mk (below2 HB.out HB.out.size b1)
      replace HR := Aside0.mk (HR.out.keep b1)
      replace HE := Aside0.mk (HE.out.keep b1)
      clear b1
      obtain ⟨d0, d1, d2, d3, d4, d5, _, _, _, _, _, d11, d12, d13⟩ := cells14 HR.out
      obtain ⟨e0, e1, e2, e3, e4⟩ := cells5 HE.out
      go_wp2_with fail
      obtain ⟨qq, hqq⟩ : ∃ qq, decide ((namedP (⟨q0, 1, q2, q3, q4, l, q6, q7, q8, q9, q10, q11, q12, q13⟩ : RecP)) = (⟨q0, 1, q2, q3, q4, l, q6, q7, q8, q9, q10, q11, q12, q13⟩ : RecP)) = qq := ⟨_, rfl⟩
      have HQ := Lib.hid hqq
      clear hqq
      clear d0 d1 d2 d3 d4 d5 d11 d12 d13 e0 e1 e2 e3 e4
      refine region_below_tail 5 (by kernel_rfl) (by kernel_rfl) ?_
      simp only [List.take_succ_cons, List.take_zero, List.drop_succ_cons, List.drop_zero]
      repeat (first | go_big_quiet_step (fail) | (refine BigFrame.wpQuiet_want (by rfl) (fun K hK => ?_); go_big_quiet_op; refine ⟨_, fun _ _ => rfl, hK _ ?_⟩; clear hK K) | (refine q_rdw 55 _ _ ⟨w.heap.size, 0, none⟩ (.agg #[.int .i64 q0, .int .i64 1, .int .i64 q2, .int .i64 q3, .int .i64 q4, (.slice A l.length c), .string q6, .int .i64 q7, .int .i64 q8, .int .i64 q9, .string q10, .string q11, .int .i64 q12, .int .i64 q13]) rfl rfl (by rfl) rfl (fun w' hw' => run_loadAt_mid w' w.heap.size 0 55 #[.int .i64 q0, .int .i64 1, .int .i64 q2, .int .i64 q3, .int .i64 q4, (.slice A l.length c), .string q6, .int .i64 q7, .int .i64 q8, .int .i64 q9, .string q10, .string q11, .int .i64 q12, .int .i64 q13].toList _ ((HR.out.keep hw').range 0 _ rfl) hu1 rfl (by kernel_rfl)) ?_; simp only [Act.put, List.setIfInBounds_toArray, List.set_cons_zero, List.set_cons_succ]) | (refine q_go (f := 54) Try.func54 (by kernel_rfl) rfl #[.agg #[.int .i64 q0, .int .i64 1, .int .i64 q2, .int .i64 q3, .int .i64 q4, (.slice A l.length c), .string q6, .int .i64 q7, .int .i64 q8, .int .i64 q9, .string q10, .string q11, .int .i64 q12, .int .i64 q13]] (.agg #[.int .i64 q0, .int .i64 1, .int .i64 0, .int .i64 0, .int .i64 0, (.slice none 0 0), .string ⟨#[]⟩, .int .i64 0, .int .i64 0, .int .i64 0, .string ⟨#[]⟩, .string q11, .int .i64 0, .int .i64 0]) _ rfl rfl rfl (by simp only [List.map_toArray, List.map_cons, List.map_nil]; rfl) (fun w' _ => named_1 q0 1 q2 q3 q4 A l.length c q6 q7 q8 q9 q10 q11 q12 q13 w' rfl) ?_; simp only [Act.put, List.setIfInBounds_toArray, List.set_cons_zero, List.set_cons_succ]) | (refine q_go (f := 29) Try.func29 (by kernel_rfl) rfl #[.agg #[.int .i64 q0, .int .i64 1, .int .i64 0, .int .i64 0, .int .i64 0, (.slice none 0 0), .string ⟨#[]⟩, .int .i64 0, .int .i64 0, .int .i64 0, .string ⟨#[]⟩, .string q11, .int .i64 0, .int .i64 0], .agg #[.int .i64 q0, .int .i64 1, .int .i64 q2, .int .i64 q3, .int .i64 q4, (.slice A l.length c), .string q6, .int .i64 q7, .int .i64 q8, .int .i64 q9, .string q10, .string q11, .int .i64 q12, .int .i64 q13]] (.bool (decide ((namedP (⟨q0, 1, q2, q3, q4, l, q6, q7, q8, q9, q10, q11, q12, q13⟩ : RecP)) = (⟨q0, 1, q2, q3, q4, l, q6, q7, q8, q9, q10, q11, q12, q13⟩ : RecP)))) _ rfl rfl rfl (by simp only [List.map_toArray, List.map_cons, List.map_nil]; rfl) (fun w' hw' => sames_calls (namedP (⟨q0, 1, q2, q3, q4, l, q6, q7, q8, q9, q10, q11, q12, q13⟩ : RecP)) (⟨q0, 1, q2, q3, q4, l, q6, q7, q8, q9, q10, q11, q12, q13⟩ : RecP) none A 0 c w' (Kd.C_nil _ w') (Kd.C_below HC.out (below2 HB.out HB.out.size hw')) (Nat.le_refl 0) HCC.out (Nat.zero_le _)) ?_; rw [HQ.out]; simp only [Act.put, List.setIfInBounds_toArray, List.set_cons_zero, List.set_cons_succ]))
      refine wpQuiet_nil ?_
      intro wn hw'
      replace HB := Aside0.mk (below2 HB.out HB.out.size hw')
      clear hw'
      cases qq
      · go_wp2_with fail
        go_ret
        exact ⟨by rw [HF.out, if_pos h0, if_pos h2]; unfold finP; rw [HQ.out]; rfl, HB.out⟩
      · go_wp2_with fail
        go_ret
        exact ⟨by rw [HF.out, if_pos h0, if_pos h2]; unfold finP; rw [HQ.out]; rfl, HB.out⟩
set_option maxRecDepth 100000 in
set_option maxHeartbeats 4000000 in
theorem rchk_2 (q0 q2 q3 q4 : Int) (A : Option Addr) (c : Nat) (l : List S83) (q6 : ByteArray) (q7 q8 q9 : Int) (q10 q11 : ByteArray) (q12 q13 : Int) (w : World) (hr : Kd.C k83 w A l.length l) (hl : l.length ≤ 1000) (hc : l.length ≤ c) : Calls Try.prog 31 #[.agg #[.int .i64 q0, .int .i64 2, .int .i64 q2, .int .i64 q3, .int .i64 q4, (.slice A l.length c), .string q6, .int .i64 q7, .int .i64 q8, .int .i64 q9, .string q10, .string q11, .int .i64 q12, .int .i64 q13]] w fun e w' => e = .returned (.int .i64 (chkR (⟨q0, 2, q2, q3, q4, l, q6, q7, q8, q9, q10, q11, q12, q13⟩ : RecP))) ∧ Below w.heap.size w w' := by
  have hu0 := Try.underlying33
  have hu1 := Try.underlying55
  have hu2 := Try.underlying29
  have hu3 := Try.underlying31
  have hu4 := Try.underlying83
  have HF := Lib.hid (show chkR (⟨q0, 2, q2, q3, q4, l, q6, q7, q8, q9, q10, q11, q12, q13⟩ : RecP) = if inB q0 63 = true then (if volR (⟨q0, 2, q2, q3, q4, l, q6, q7, q8, q9, q10, q11, q12, q13⟩ : RecP) = true then finP (⟨q0, 2, q2, q3, q4, l, q6, q7, q8, q9, q10, q11, q12, q13⟩ : RecP) else 1) else 1 from rfl)
  have HC := Lib.hid hr
  have HL := Lib.hid hl
  have HCC := Lib.hid hc
  clear hr hl hc
  have HB : Aside0 (Below w.heap.size w ((w.alloc (.cells #[.int .i64 q0, .int .i64 2, .int .i64 q2, .int .i64 q3, .int .i64 q4, (.slice A l.length c), .string q6, .int .i64 q7, .int .i64 q8, .int .i64 q9, .string q10, .string q11, .int .i64 q12, .int .i64 q13] 55)).alloc (.cells #[.string q6, .int .i64 q7, .int .i64 q8, .int .i64 q9, .string q10] 31))) := ⟨below_alloc2 w _ _⟩
  have HR : Aside0 (Blk ((w.alloc (.cells #[.int .i64 q0, .int .i64 2, .int .i64 q2, .int .i64 q3, .int .i64 q4, (.slice A l.length c), .string q6, .int .i64 q7, .int .i64 q8, .int .i64 q9, .string q10, .string q11, .int .i64 q12, .int .i64 q13] 55)).alloc (.cells #[.string q6, .int .i64 q7, .int .i64 q8, .int .i64 q9, .string q10] 31)) w.heap.size #[.int .i64 q0, .int .i64 2, .int .i64 q2, .int .i64 q3, .int .i64 q4, (.slice A l.length c), .string q6, .int .i64 q7, .int .i64 q8, .int .i64 q9, .string q10, .string q11, .int .i64 q12, .int .i64 q13] 55) := ⟨(Blk.new w _ _).alloc _⟩
  have HE : Aside0 (Blk ((w.alloc (.cells #[.int .i64 q0, .int .i64 2, .int .i64 q2, .int .i64 q3, .int .i64 q4, (.slice A l.length c), .string q6, .int .i64 q7, .int .i64 q8, .int .i64 q9, .string q10, .string q11, .int .i64 q12, .int .i64 q13] 55)).alloc (.cells #[.string q6, .int .i64 q7, .int .i64 q8, .int .i64 q9, .string q10] 31)) (w.heap.size + 1) #[.string q6, .int .i64 q7, .int .i64 q8, .int .i64 q9, .string q10] 31) := ⟨blk2 w _ _ _⟩
  obtain ⟨d0, d1, d2, d3, d4, d5, _, _, _, _, _, d11, d12, d13⟩ := cells14 HR.out
  obtain ⟨e0, e1, e2, e3, e4⟩ := cells5 HE.out
  go_enter Try.func31, Try.ntmps31
  cases h0 : inB q0 63 with
  | false =>
    go_wp2_with fail
    clear d0 d1 d2 d3 d4 d5 d11 d12 d13 e0 e1 e2 e3 e4
    refine (in_calls _ _ _).mono ?_
    rintro e w1 ⟨rfl, b1⟩
    rw [h0]
    replace HB := Aside0.mk (below2 HB.out HB.out.size b1)
    replace HR := Aside0.mk (HR.out.keep b1)
    replace HE := Aside0.mk (HE.out.keep b1)
    clear b1
    obtain ⟨d0, d1, d2, d3, d4, d5, _, _, _, _, _, d11, d12, d13⟩ := cells14 HR.out
    obtain ⟨e0, e1, e2, e3, e4⟩ := cells5 HE.out
    go_wp2_with fail
    go_ret
    exact ⟨by rw [HF.out, if_neg (by rw [h0]; decide)]; rfl, HB.out⟩
  | true =>
    go_wp2_with fail
    clear d0 d1 d2 d3 d4 d5 d11 d12 d13 e0 e1 e2 e3 e4
    refine (in_calls _ _ _).mono ?_
    rintro e w1 ⟨rfl, b1⟩
    rw [h0]
    replace HB := Aside0.mk (below2 HB.out HB.out.size b1)
    replace HR := Aside0.mk (HR.out.keep b1)
    replace HE := Aside0.mk (HE.out.keep b1)
    clear b1
    obtain ⟨d0, d1, d2, d3, d4, d5, _, _, _, _, _, d11, d12, d13⟩ := cells14 HR.out
    obtain ⟨e0, e1, e2, e3, e4⟩ := cells5 HE.out
    go_wp2_with fail
    clear d0 d1 d2 d3 d4 d5 d11 d12 d13 e0 e1 e2 e3 e4
    refine (in_calls _ _ _).mono ?_
    rintro e w1 ⟨rfl, b1⟩
    rw [show inB 2 3 = true from rfl]
    replace HB := Aside0.mk (below2 HB.out HB.out.size b1)
    replace HR := Aside0.mk (HR.out.keep b1)
    replace HE := Aside0.mk (HE.out.keep b1)
    clear b1
    obtain ⟨d0, d1, d2, d3, d4, d5, _, _, _, _, _, d11, d12, d13⟩ := cells14 HR.out
    obtain ⟨e0, e1, e2, e3, e4⟩ := cells5 HE.out
    cases h2 : volR (⟨q0, 2, q2, q3, q4, l, q6, q7, q8, q9, q10, q11, q12, q13⟩ : RecP) with
    | false =>
      go_wp2_with fail
      clear d0 d1 d2 d3 d4 d5 d11 d12 d13 e0 e1 e2 e3 e4
      refine (vol_calls q2 q3 q4 A l.length c l _ (Kd.C_below HC.out HB.out) rfl HL.out).mono ?_
      rintro e w1 ⟨rfl, b1⟩
      rw [show volP q2 q3 q4 l = false from h2]
      replace HB := Aside0.mk (below2 HB.out HB.out.size b1)
      replace HR := Aside0.mk (HR.out.keep b1)
      replace HE := Aside0.mk (HE.out.keep b1)
      clear b1
      obtain ⟨d0, d1, d2, d3, d4, d5, _, _, _, _, _, d11, d12, d13⟩ := cells14 HR.out
      obtain ⟨e0, e1, e2, e3, e4⟩ := cells5 HE.out
      go_wp2_with fail
      go_ret
      exact ⟨by rw [HF.out, if_pos h0, if_neg (by rw [h2]; decide)]; rfl, HB.out⟩
    | true =>
      go_wp2_with fail
      clear d0 d1 d2 d3 d4 d5 d11 d12 d13 e0 e1 e2 e3 e4
      refine (vol_calls q2 q3 q4 A l.length c l _ (Kd.C_below HC.out HB.out) rfl HL.out).mono ?_
      rintro e w1 ⟨rfl, b1⟩
      rw [show volP q2 q3 q4 l = true from h2]
      replace HB := Aside0.mk (below2 HB.out HB.out.size b1)
      replace HR := Aside0.mk (HR.out.keep b1)
      replace HE := Aside0.mk (HE.out.keep b1)
      clear b1
      obtain ⟨d0, d1, d2, d3, d4, d5, _, _, _, _, _, d11, d12, d13⟩ := cells14 HR.out
      obtain ⟨e0, e1, e2, e3, e4⟩ := cells5 HE.out
      go_wp2_with fail
      obtain ⟨qq, hqq⟩ : ∃ qq, decide ((namedP (⟨q0, 2, q2, q3, q4, l, q6, q7, q8, q9, q10, q11, q12, q13⟩ : RecP)) = (⟨q0, 2, q2, q3, q4, l, q6, q7, q8, q9, q10, q11, q12, q13⟩ : RecP)) = qq := ⟨_, rfl⟩
      have HQ := Lib.hid hqq
      clear hqq
      clear d0 d1 d2 d3 d4 d5 d11 d12 d13 e0 e1 e2 e3 e4
      refine region_below_tail 5 (by kernel_rfl) (by kernel_rfl) ?_
      simp only [List.take_succ_cons, List.take_zero, List.drop_succ_cons, List.drop_zero]
      repeat (first | go_big_quiet_step (fail) | (refine BigFrame.wpQuiet_want (by rfl) (fun K hK => ?_); go_big_quiet_op; refine ⟨_, fun _ _ => rfl, hK _ ?_⟩; clear hK K) | (refine q_rdw 55 _ _ ⟨w.heap.size, 0, none⟩ (.agg #[.int .i64 q0, .int .i64 2, .int .i64 q2, .int .i64 q3, .int .i64 q4, (.slice A l.length c), .string q6, .int .i64 q7, .int .i64 q8, .int .i64 q9, .string q10, .string q11, .int .i64 q12, .int .i64 q13]) rfl rfl (by rfl) rfl (fun w' hw' => run_loadAt_mid w' w.heap.size 0 55 #[.int .i64 q0, .int .i64 2, .int .i64 q2, .int .i64 q3, .int .i64 q4, (.slice A l.length c), .string q6, .int .i64 q7, .int .i64 q8, .int .i64 q9, .string q10, .string q11, .int .i64 q12, .int .i64 q13].toList _ ((HR.out.keep hw').range 0 _ rfl) hu1 rfl (by kernel_rfl)) ?_; simp only [Act.put, List.setIfInBounds_toArray, List.set_cons_zero, List.set_cons_succ]) | (refine q_go (f := 54) Try.func54 (by kernel_rfl) rfl #[.agg #[.int .i64 q0, .int .i64 2, .int .i64 q2, .int .i64 q3, .int .i64 q4, (.slice A l.length c), .string q6, .int .i64 q7, .int .i64 q8, .int .i64 q9, .string q10, .string q11, .int .i64 q12, .int .i64 q13]] (.agg #[.int .i64 q0, .int .i64 2, .int .i64 q2, .int .i64 q3, .int .i64 q4, (.slice A l.length c), .string ⟨#[]⟩, .int .i64 0, .int .i64 0, .int .i64 0, .string ⟨#[]⟩, .string ⟨#[]⟩, .int .i64 0, .int .i64 0]) _ rfl rfl rfl (by simp only [List.map_toArray, List.map_cons, List.map_nil]; rfl) (fun w' _ => named_x q0 2 q2 q3 q4 A l.length c q6 q7 q8 q9 q10 q11 q12 q13 w' (by decide) (by decide) (by decide)) ?_; simp only [Act.put, List.setIfInBounds_toArray, List.set_cons_zero, List.set_cons_succ]) | (refine q_go (f := 29) Try.func29 (by kernel_rfl) rfl #[.agg #[.int .i64 q0, .int .i64 2, .int .i64 q2, .int .i64 q3, .int .i64 q4, (.slice A l.length c), .string ⟨#[]⟩, .int .i64 0, .int .i64 0, .int .i64 0, .string ⟨#[]⟩, .string ⟨#[]⟩, .int .i64 0, .int .i64 0], .agg #[.int .i64 q0, .int .i64 2, .int .i64 q2, .int .i64 q3, .int .i64 q4, (.slice A l.length c), .string q6, .int .i64 q7, .int .i64 q8, .int .i64 q9, .string q10, .string q11, .int .i64 q12, .int .i64 q13]] (.bool (decide ((namedP (⟨q0, 2, q2, q3, q4, l, q6, q7, q8, q9, q10, q11, q12, q13⟩ : RecP)) = (⟨q0, 2, q2, q3, q4, l, q6, q7, q8, q9, q10, q11, q12, q13⟩ : RecP)))) _ rfl rfl rfl (by simp only [List.map_toArray, List.map_cons, List.map_nil]; rfl) (fun w' hw' => sames_calls (namedP (⟨q0, 2, q2, q3, q4, l, q6, q7, q8, q9, q10, q11, q12, q13⟩ : RecP)) (⟨q0, 2, q2, q3, q4, l, q6, q7, q8, q9, q10, q11, q12, q13⟩ : RecP) A A c c w' (Kd.C_below HC.out (below2 HB.out HB.out.size hw')) (Kd.C_below HC.out (below2 HB.out HB.out.size hw')) HCC.out HCC.out HL.out) ?_; rw [HQ.out]; simp only [Act.put, List.setIfInBounds_toArray, List.set_cons_zero, List.set_cons_succ]))
      refine wpQuiet_nil ?_
      intro wn hw'
      replace HB := Aside0.mk (below2 HB.out HB.out.size hw')
      clear hw'
      cases qq
      · go_wp2_with fail
        go_ret
        exact ⟨by rw [HF.out, if_pos h0, if_pos h2]; unfold finP; rw [HQ.out]; rfl, HB.out⟩
      · go_wp2_with fail
        go_ret
        exact ⟨by rw [HF.out, if_pos h0, if_pos h2]; unfold finP; rw [HQ.out]; rfl, HB.out⟩
set_option maxRecDepth 100000 in
set_option maxHeartbeats 4000000 in
theorem rchk_3 (q0 q2 q3 q4 : Int) (A : Option Addr) (c : Nat) (l : List S83) (q6 : ByteArray) (q7 q8 q9 : Int) (q10 q11 : ByteArray) (q12 q13 : Int) (w : World) (hr : Kd.C k83 w A l.length l) (hl : l.length ≤ 1000) (hc : l.length ≤ c) : Calls Try.prog 31 #[.agg #[.int .i64 q0, .int .i64 3, .int .i64 q2, .int .i64 q3, .int .i64 q4, (.slice A l.length c), .string q6, .int .i64 q7, .int .i64 q8, .int .i64 q9, .string q10, .string q11, .int .i64 q12, .int .i64 q13]] w fun e w' => e = .returned (.int .i64 (chkR (⟨q0, 3, q2, q3, q4, l, q6, q7, q8, q9, q10, q11, q12, q13⟩ : RecP))) ∧ Below w.heap.size w w' := by
  have hu0 := Try.underlying33
  have hu1 := Try.underlying55
  have hu2 := Try.underlying29
  have hu3 := Try.underlying31
  have hu4 := Try.underlying83
  have HF := Lib.hid (show chkR (⟨q0, 3, q2, q3, q4, l, q6, q7, q8, q9, q10, q11, q12, q13⟩ : RecP) = if inB q0 63 = true then (if volR (⟨q0, 3, q2, q3, q4, l, q6, q7, q8, q9, q10, q11, q12, q13⟩ : RecP) = true then (if inB q12 1099511627776 = true then (if inB q13 1099511627776 = true then (if (q12 == q13) = true then 1 else finP (⟨q0, 3, q2, q3, q4, l, q6, q7, q8, q9, q10, q11, q12, q13⟩ : RecP)) else 1) else 1) else 1) else 1 from rfl)
  have HC := Lib.hid hr
  have HL := Lib.hid hl
  have HCC := Lib.hid hc
  clear hr hl hc
  have HB : Aside0 (Below w.heap.size w ((w.alloc (.cells #[.int .i64 q0, .int .i64 3, .int .i64 q2, .int .i64 q3, .int .i64 q4, (.slice A l.length c), .string q6, .int .i64 q7, .int .i64 q8, .int .i64 q9, .string q10, .string q11, .int .i64 q12, .int .i64 q13] 55)).alloc (.cells #[.string q6, .int .i64 q7, .int .i64 q8, .int .i64 q9, .string q10] 31))) := ⟨below_alloc2 w _ _⟩
  have HR : Aside0 (Blk ((w.alloc (.cells #[.int .i64 q0, .int .i64 3, .int .i64 q2, .int .i64 q3, .int .i64 q4, (.slice A l.length c), .string q6, .int .i64 q7, .int .i64 q8, .int .i64 q9, .string q10, .string q11, .int .i64 q12, .int .i64 q13] 55)).alloc (.cells #[.string q6, .int .i64 q7, .int .i64 q8, .int .i64 q9, .string q10] 31)) w.heap.size #[.int .i64 q0, .int .i64 3, .int .i64 q2, .int .i64 q3, .int .i64 q4, (.slice A l.length c), .string q6, .int .i64 q7, .int .i64 q8, .int .i64 q9, .string q10, .string q11, .int .i64 q12, .int .i64 q13] 55) := ⟨(Blk.new w _ _).alloc _⟩
  have HE : Aside0 (Blk ((w.alloc (.cells #[.int .i64 q0, .int .i64 3, .int .i64 q2, .int .i64 q3, .int .i64 q4, (.slice A l.length c), .string q6, .int .i64 q7, .int .i64 q8, .int .i64 q9, .string q10, .string q11, .int .i64 q12, .int .i64 q13] 55)).alloc (.cells #[.string q6, .int .i64 q7, .int .i64 q8, .int .i64 q9, .string q10] 31)) (w.heap.size + 1) #[.string q6, .int .i64 q7, .int .i64 q8, .int .i64 q9, .string q10] 31) := ⟨blk2 w _ _ _⟩
  obtain ⟨d0, d1, d2, d3, d4, d5, _, _, _, _, _, d11, d12, d13⟩ := cells14 HR.out
  obtain ⟨e0, e1, e2, e3, e4⟩ := cells5 HE.out
  go_enter Try.func31, Try.ntmps31
  cases h0 : inB q0 63 with
  | false =>
    go_wp2_with fail
    clear d0 d1 d2 d3 d4 d5 d11 d12 d13 e0 e1 e2 e3 e4
    refine (in_calls _ _ _).mono ?_
    rintro e w1 ⟨rfl, b1⟩
    rw [h0]
    replace HB := Aside0.mk (below2 HB.out HB.out.size b1)
    replace HR := Aside0.mk (HR.out.keep b1)
    replace HE := Aside0.mk (HE.out.keep b1)
    clear b1
    obtain ⟨d0, d1, d2, d3, d4, d5, _, _, _, _, _, d11, d12, d13⟩ := cells14 HR.out
    obtain ⟨e0, e1, e2, e3, e4⟩ := cells5 HE.out
    go_wp2_with fail
    go_ret
    exact ⟨by rw [HF.out, if_neg (by rw [h0]; decide)]; rfl, HB.out⟩
  | true =>
    go_wp2_with fail
    clear d0 d1 d2 d3 d4 d5 d11 d12 d13 e0 e1 e2 e3 e4
    refine (in_calls _ _ _).mono ?_
    rintro e w1 ⟨rfl, b1⟩
    rw [h0]
    replace HB := Aside0.mk (below2 HB.out HB.out.size b1)
    replace HR := Aside0.mk (HR.out.keep b1)
    replace HE := Aside0.mk (HE.out.keep b1)
    clear b1
    obtain ⟨d0, d1, d2, d3, d4, d5, _, _, _, _, _, d11, d12, d13⟩ := cells14 HR.out
    obtain ⟨e0, e1, e2, e3, e4⟩ := cells5 HE.out
    go_wp2_with fail
    clear d0 d1 d2 d3 d4 d5 d11 d12 d13 e0 e1 e2 e3 e4
    refine (in_calls _ _ _).mono ?_
    rintro e w1 ⟨rfl, b1⟩
    rw [show inB 3 3 = true from rfl]
    replace HB := Aside0.mk (below2 HB.out HB.out.size b1)
    replace HR := Aside0.mk (HR.out.keep b1)
    replace HE := Aside0.mk (HE.out.keep b1)
    clear b1
    obtain ⟨d0, d1, d2, d3, d4, d5, _, _, _, _, _, d11, d12, d13⟩ := cells14 HR.out
    obtain ⟨e0, e1, e2, e3, e4⟩ := cells5 HE.out
    cases h2 : volR (⟨q0, 3, q2, q3, q4, l, q6, q7, q8, q9, q10, q11, q12, q13⟩ : RecP) with
    | false =>
      go_wp2_with fail
      clear d0 d1 d2 d3 d4 d5 d11 d12 d13 e0 e1 e2 e3 e4
      refine (vol_calls q2 q3 q4 A l.length c l _ (Kd.C_below HC.out HB.out) rfl HL.out).mono ?_
      rintro e w1 ⟨rfl, b1⟩
      rw [show volP q2 q3 q4 l = false from h2]
      replace HB := Aside0.mk (below2 HB.out HB.out.size b1)
      replace HR := Aside0.mk (HR.out.keep b1)
      replace HE := Aside0.mk (HE.out.keep b1)
      clear b1
      obtain ⟨d0, d1, d2, d3, d4, d5, _, _, _, _, _, d11, d12, d13⟩ := cells14 HR.out
      obtain ⟨e0, e1, e2, e3, e4⟩ := cells5 HE.out
      go_wp2_with fail
      go_ret
      exact ⟨by rw [HF.out, if_pos h0, if_neg (by rw [h2]; decide)]; rfl, HB.out⟩
    | true =>
      go_wp2_with fail
      clear d0 d1 d2 d3 d4 d5 d11 d12 d13 e0 e1 e2 e3 e4
      refine (vol_calls q2 q3 q4 A l.length c l _ (Kd.C_below HC.out HB.out) rfl HL.out).mono ?_
      rintro e w1 ⟨rfl, b1⟩
      rw [show volP q2 q3 q4 l = true from h2]
      replace HB := Aside0.mk (below2 HB.out HB.out.size b1)
      replace HR := Aside0.mk (HR.out.keep b1)
      replace HE := Aside0.mk (HE.out.keep b1)
      clear b1
      obtain ⟨d0, d1, d2, d3, d4, d5, _, _, _, _, _, d11, d12, d13⟩ := cells14 HR.out
      obtain ⟨e0, e1, e2, e3, e4⟩ := cells5 HE.out
      cases h3 : inB q12 1099511627776 with
      | false =>
        go_wp2_with fail
        clear d0 d1 d2 d3 d4 d5 d11 d12 d13 e0 e1 e2 e3 e4
        refine (in_calls _ _ _).mono ?_
        rintro e w1 ⟨rfl, b1⟩
        rw [h3]
        replace HB := Aside0.mk (below2 HB.out HB.out.size b1)
        replace HR := Aside0.mk (HR.out.keep b1)
        replace HE := Aside0.mk (HE.out.keep b1)
        clear b1
        obtain ⟨d0, d1, d2, d3, d4, d5, _, _, _, _, _, d11, d12, d13⟩ := cells14 HR.out
        obtain ⟨e0, e1, e2, e3, e4⟩ := cells5 HE.out
        go_wp2_with fail
        go_ret
        exact ⟨by rw [HF.out, if_pos h0, if_pos h2, if_neg (by rw [h3]; decide)]; rfl, HB.out⟩
      | true =>
        go_wp2_with fail
        clear d0 d1 d2 d3 d4 d5 d11 d12 d13 e0 e1 e2 e3 e4
        refine (in_calls _ _ _).mono ?_
        rintro e w1 ⟨rfl, b1⟩
        rw [h3]
        replace HB := Aside0.mk (below2 HB.out HB.out.size b1)
        replace HR := Aside0.mk (HR.out.keep b1)
        replace HE := Aside0.mk (HE.out.keep b1)
        clear b1
        obtain ⟨d0, d1, d2, d3, d4, d5, _, _, _, _, _, d11, d12, d13⟩ := cells14 HR.out
        obtain ⟨e0, e1, e2, e3, e4⟩ := cells5 HE.out
        cases h4 : inB q13 1099511627776 with
        | false =>
          go_wp2_with fail
          clear d0 d1 d2 d3 d4 d5 d11 d12 d13 e0 e1 e2 e3 e4
          refine (in_calls _ _ _).mono ?_
          rintro e w1 ⟨rfl, b1⟩
          rw [h4]
          replace HB := Aside0.mk (below2 HB.out HB.out.size b1)
          replace HR := Aside0.mk (HR.out.keep b1)
          replace HE := Aside0.mk (HE.out.keep b1)
          clear b1
          obtain ⟨d0, d1, d2, d3, d4, d5, _, _, _, _, _, d11, d12, d13⟩ := cells14 HR.out
          obtain ⟨e0, e1, e2, e3, e4⟩ := cells5 HE.out
          go_wp2_with fail
          go_ret
          exact ⟨by rw [HF.out, if_pos h0, if_pos h2, if_pos h3, if_neg (by rw [h4]; decide)]; rfl, HB.out⟩
        | true =>
          go_wp2_with fail
          clear d0 d1 d2 d3 d4 d5 d11 d12 d13 e0 e1 e2 e3 e4
          refine (in_calls _ _ _).mono ?_
          rintro e w1 ⟨rfl, b1⟩
          rw [h4]
          replace HB := Aside0.mk (below2 HB.out HB.out.size b1)
          replace HR := Aside0.mk (HR.out.keep b1)
          replace HE := Aside0.mk (HE.out.keep b1)
          clear b1
          obtain ⟨d0, d1, d2, d3, d4, d5, _, _, _, _, _, d11, d12, d13⟩ := cells14 HR.out
          obtain ⟨e0, e1, e2, e3, e4⟩ := cells5 HE.out
          cases h5 : (q12 == q13) with
          | true =>
            have h5n : (q12 != q13) = false := by simp [bne, h5]
            go_wp2_with fail
            go_ret
            exact ⟨by rw [HF.out, if_pos h0, if_pos h2, if_pos h3, if_pos h4, if_pos h5]; rfl, HB.out⟩
          | false =>
            have h5n : (q12 != q13) = true := by simp [bne, h5]
            go_wp2_with fail
            obtain ⟨qq, hqq⟩ : ∃ qq, decide ((namedP (⟨q0, 3, q2, q3, q4, l, q6, q7, q8, q9, q10, q11, q12, q13⟩ : RecP)) = (⟨q0, 3, q2, q3, q4, l, q6, q7, q8, q9, q10, q11, q12, q13⟩ : RecP)) = qq := ⟨_, rfl⟩
            have HQ := Lib.hid hqq
            clear hqq
            clear d0 d1 d2 d3 d4 d5 d11 d12 d13 e0 e1 e2 e3 e4
            refine region_below_tail 5 (by kernel_rfl) (by kernel_rfl) ?_
            simp only [List.take_succ_cons, List.take_zero, List.drop_succ_cons, List.drop_zero]
            repeat (first | go_big_quiet_step (fail) | (refine BigFrame.wpQuiet_want (by rfl) (fun K hK => ?_); go_big_quiet_op; refine ⟨_, fun _ _ => rfl, hK _ ?_⟩; clear hK K) | (refine q_rdw 55 _ _ ⟨w.heap.size, 0, none⟩ (.agg #[.int .i64 q0, .int .i64 3, .int .i64 q2, .int .i64 q3, .int .i64 q4, (.slice A l.length c), .string q6, .int .i64 q7, .int .i64 q8, .int .i64 q9, .string q10, .string q11, .int .i64 q12, .int .i64 q13]) rfl rfl (by rfl) rfl (fun w' hw' => run_loadAt_mid w' w.heap.size 0 55 #[.int .i64 q0, .int .i64 3, .int .i64 q2, .int .i64 q3, .int .i64 q4, (.slice A l.length c), .string q6, .int .i64 q7, .int .i64 q8, .int .i64 q9, .string q10, .string q11, .int .i64 q12, .int .i64 q13].toList _ ((HR.out.keep hw').range 0 _ rfl) hu1 rfl (by kernel_rfl)) ?_; simp only [Act.put, List.setIfInBounds_toArray, List.set_cons_zero, List.set_cons_succ]) | (refine q_go (f := 54) Try.func54 (by kernel_rfl) rfl #[.agg #[.int .i64 q0, .int .i64 3, .int .i64 q2, .int .i64 q3, .int .i64 q4, (.slice A l.length c), .string q6, .int .i64 q7, .int .i64 q8, .int .i64 q9, .string q10, .string q11, .int .i64 q12, .int .i64 q13]] (.agg #[.int .i64 q0, .int .i64 3, .int .i64 q2, .int .i64 q3, .int .i64 q4, (.slice A l.length c), .string ⟨#[]⟩, .int .i64 0, .int .i64 0, .int .i64 0, .string ⟨#[]⟩, .string ⟨#[]⟩, .int .i64 q12, .int .i64 q13]) _ rfl rfl rfl (by simp only [List.map_toArray, List.map_cons, List.map_nil]; rfl) (fun w' _ => named_3 q0 3 q2 q3 q4 A l.length c q6 q7 q8 q9 q10 q11 q12 q13 w' rfl) ?_; simp only [Act.put, List.setIfInBounds_toArray, List.set_cons_zero, List.set_cons_succ]) | (refine q_go (f := 29) Try.func29 (by kernel_rfl) rfl #[.agg #[.int .i64 q0, .int .i64 3, .int .i64 q2, .int .i64 q3, .int .i64 q4, (.slice A l.length c), .string ⟨#[]⟩, .int .i64 0, .int .i64 0, .int .i64 0, .string ⟨#[]⟩, .string ⟨#[]⟩, .int .i64 q12, .int .i64 q13], .agg #[.int .i64 q0, .int .i64 3, .int .i64 q2, .int .i64 q3, .int .i64 q4, (.slice A l.length c), .string q6, .int .i64 q7, .int .i64 q8, .int .i64 q9, .string q10, .string q11, .int .i64 q12, .int .i64 q13]] (.bool (decide ((namedP (⟨q0, 3, q2, q3, q4, l, q6, q7, q8, q9, q10, q11, q12, q13⟩ : RecP)) = (⟨q0, 3, q2, q3, q4, l, q6, q7, q8, q9, q10, q11, q12, q13⟩ : RecP)))) _ rfl rfl rfl (by simp only [List.map_toArray, List.map_cons, List.map_nil]; rfl) (fun w' hw' => sames_calls (namedP (⟨q0, 3, q2, q3, q4, l, q6, q7, q8, q9, q10, q11, q12, q13⟩ : RecP)) (⟨q0, 3, q2, q3, q4, l, q6, q7, q8, q9, q10, q11, q12, q13⟩ : RecP) A A c c w' (Kd.C_below HC.out (below2 HB.out HB.out.size hw')) (Kd.C_below HC.out (below2 HB.out HB.out.size hw')) HCC.out HCC.out HL.out) ?_; rw [HQ.out]; simp only [Act.put, List.setIfInBounds_toArray, List.set_cons_zero, List.set_cons_succ]))
            refine wpQuiet_nil ?_
            intro wn hw'
            replace HB := Aside0.mk (below2 HB.out HB.out.size hw')
            clear hw'
            cases qq
            · go_wp2_with fail
              go_ret
              exact ⟨by rw [HF.out, if_pos h0, if_pos h2, if_pos h3, if_pos h4, if_neg (by rw [h5]; decide)]; unfold finP; rw [HQ.out]; rfl, HB.out⟩
            · go_wp2_with fail
              go_ret
              exact ⟨by rw [HF.out, if_pos h0, if_pos h2, if_pos h3, if_pos h4, if_neg (by rw [h5]; decide)]; unfold finP; rw [HQ.out]; rfl, HB.out⟩
set_option maxRecDepth 100000 in
set_option maxHeartbeats 4000000 in
theorem rchk_x (q1 : Int) (q0 q2 q3 q4 : Int) (A : Option Addr) (c : Nat) (l : List S83) (q6 : ByteArray) (q7 q8 q9 : Int) (q10 q11 : ByteArray) (q12 q13 : Int) (w : World) (hk : inB q1 3 = false) (hz : chkR (⟨q0, q1, q2, q3, q4, l, q6, q7, q8, q9, q10, q11, q12, q13⟩ : RecP) = 1) : Calls Try.prog 31 #[.agg #[.int .i64 q0, .int .i64 q1, .int .i64 q2, .int .i64 q3, .int .i64 q4, (.slice A l.length c), .string q6, .int .i64 q7, .int .i64 q8, .int .i64 q9, .string q10, .string q11, .int .i64 q12, .int .i64 q13]] w fun e w' => e = .returned (.int .i64 (chkR (⟨q0, q1, q2, q3, q4, l, q6, q7, q8, q9, q10, q11, q12, q13⟩ : RecP))) ∧ Below w.heap.size w w' := by
  have hu0 := Try.underlying33
  have hu1 := Try.underlying55
  have hu2 := Try.underlying29
  have hu3 := Try.underlying31
  have hu4 := Try.underlying83
  have HF := Lib.hid hz
  clear hz
  have HB : Aside0 (Below w.heap.size w ((w.alloc (.cells #[.int .i64 q0, .int .i64 q1, .int .i64 q2, .int .i64 q3, .int .i64 q4, (.slice A l.length c), .string q6, .int .i64 q7, .int .i64 q8, .int .i64 q9, .string q10, .string q11, .int .i64 q12, .int .i64 q13] 55)).alloc (.cells #[.string q6, .int .i64 q7, .int .i64 q8, .int .i64 q9, .string q10] 31))) := ⟨below_alloc2 w _ _⟩
  have HR : Aside0 (Blk ((w.alloc (.cells #[.int .i64 q0, .int .i64 q1, .int .i64 q2, .int .i64 q3, .int .i64 q4, (.slice A l.length c), .string q6, .int .i64 q7, .int .i64 q8, .int .i64 q9, .string q10, .string q11, .int .i64 q12, .int .i64 q13] 55)).alloc (.cells #[.string q6, .int .i64 q7, .int .i64 q8, .int .i64 q9, .string q10] 31)) w.heap.size #[.int .i64 q0, .int .i64 q1, .int .i64 q2, .int .i64 q3, .int .i64 q4, (.slice A l.length c), .string q6, .int .i64 q7, .int .i64 q8, .int .i64 q9, .string q10, .string q11, .int .i64 q12, .int .i64 q13] 55) := ⟨(Blk.new w _ _).alloc _⟩
  have HE : Aside0 (Blk ((w.alloc (.cells #[.int .i64 q0, .int .i64 q1, .int .i64 q2, .int .i64 q3, .int .i64 q4, (.slice A l.length c), .string q6, .int .i64 q7, .int .i64 q8, .int .i64 q9, .string q10, .string q11, .int .i64 q12, .int .i64 q13] 55)).alloc (.cells #[.string q6, .int .i64 q7, .int .i64 q8, .int .i64 q9, .string q10] 31)) (w.heap.size + 1) #[.string q6, .int .i64 q7, .int .i64 q8, .int .i64 q9, .string q10] 31) := ⟨blk2 w _ _ _⟩
  go_enter Try.func31, Try.ntmps31
  cases h0 : inB q0 63 with
  | false =>
    obtain ⟨d0, d1, d2, d3, d4, d5, _, _, _, _, _, d11, d12, d13⟩ := cells14 HR.out
    obtain ⟨e0, e1, e2, e3, e4⟩ := cells5 HE.out
    go_wp2_with fail
    clear d0 d1 d2 d3 d4 d5 d11 d12 d13 e0 e1 e2 e3 e4
    refine (in_calls _ _ _).mono ?_
    rintro e w1 ⟨rfl, b1⟩
    rw [h0]
    replace HB := Aside0.mk (below2 HB.out HB.out.size b1)
    replace HR := Aside0.mk (HR.out.keep b1)
    replace HE := Aside0.mk (HE.out.keep b1)
    clear b1
    obtain ⟨d0, d1, d2, d3, d4, d5, _, _, _, _, _, d11, d12, d13⟩ := cells14 HR.out
    obtain ⟨e0, e1, e2, e3, e4⟩ := cells5 HE.out
    go_wp2_with fail
    go_ret
    exact ⟨by rw [HF.out]; rfl, HB.out⟩
  | true =>
    obtain ⟨d0, d1, d2, d3, d4, d5, _, _, _, _, _, d11, d12, d13⟩ := cells14 HR.out
    obtain ⟨e0, e1, e2, e3, e4⟩ := cells5 HE.out
    go_wp2_with fail
    clear d0 d1 d2 d3 d4 d5 d11 d12 d13 e0 e1 e2 e3 e4
    refine (in_calls _ _ _).mono ?_
    rintro e w1 ⟨rfl, b1⟩
    rw [h0]
    replace HB := Aside0.mk (below2 HB.out HB.out.size b1)
    replace HR := Aside0.mk (HR.out.keep b1)
    replace HE := Aside0.mk (HE.out.keep b1)
    clear b1
    obtain ⟨d0, d1, d2, d3, d4, d5, _, _, _, _, _, d11, d12, d13⟩ := cells14 HR.out
    obtain ⟨e0, e1, e2, e3, e4⟩ := cells5 HE.out
    go_wp2_with fail
    clear d0 d1 d2 d3 d4 d5 d11 d12 d13 e0 e1 e2 e3 e4
    refine (in_calls _ _ _).mono ?_
    rintro e w1 ⟨rfl, b1⟩
    rw [hk]
    replace HB := Aside0.mk (below2 HB.out HB.out.size b1)
    replace HR := Aside0.mk (HR.out.keep b1)
    replace HE := Aside0.mk (HE.out.keep b1)
    clear b1
    obtain ⟨d0, d1, d2, d3, d4, d5, _, _, _, _, _, d11, d12, d13⟩ := cells14 HR.out
    obtain ⟨e0, e1, e2, e3, e4⟩ := cells5 HE.out
    go_wp2_with fail
    go_ret
    exact ⟨by rw [HF.out]; rfl, HB.out⟩
theorem rchk_calls (r : RecP) (A : Option Addr) (c : Nat) (w : World) (hr : Kd.C k83 w A r.locs.length r.locs) (hl : r.locs.length ≤ 1000) (hc : r.locs.length ≤ c) : Calls Try.prog 31 #[.agg #[.int .i64 r.seq, .int .i64 r.kind, .int .i64 r.id, .int .i64 r.gen, .int .i64 r.len, (.slice A r.locs.length c), .string r.ekey, .int .i64 r.evol, .int .i64 r.eoff, .int .i64 r.elen, .string r.dig, .string r.key, .int .i64 r.frm, .int .i64 r.til]] w fun e w' => e = .returned (.int .i64 (chkR r)) ∧ Below w.heap.size w w' := by
  obtain ⟨q0, q1, q2, q3, q4, l, q6, q7, q8, q9, q10, q11, q12, q13⟩ := r
  by_cases k0 : q1 = 0
  · subst k0; exact rchk_0 q0 q2 q3 q4 A c l q6 q7 q8 q9 q10 q11 q12 q13 w hr hl hc
  · by_cases k1 : q1 = 1
    · subst k1; exact rchk_1 q0 q2 q3 q4 A c l q6 q7 q8 q9 q10 q11 q12 q13 w hr hl hc
    · by_cases k2 : q1 = 2
      · subst k2; exact rchk_2 q0 q2 q3 q4 A c l q6 q7 q8 q9 q10 q11 q12 q13 w hr hl hc
      · by_cases k3 : q1 = 3
        · subst k3; exact rchk_3 q0 q2 q3 q4 A c l q6 q7 q8 q9 q10 q11 q12 q13 w hr hl hc
        · refine rchk_x q1 q0 q2 q3 q4 A c l q6 q7 q8 q9 q10 q11 q12 q13 w ?_ ?_
          · unfold inB
            rw [Bool.and_eq_false_iff, decide_eq_false_iff_not, decide_eq_false_iff_not]
            omega
          · unfold chkR
            rw [if_neg (show ¬ q1 = 0 from k0), if_neg (show ¬ q1 = 1 from k1), if_neg (show ¬ q1 = 2 from k2), if_neg (show ¬ q1 = 3 from k3), ite_self]
end Go.Proofs.Ytmfcbfgijimliaa
end
section
namespace Go.Proofs.Ytmfcbfgijimliaa
open Go.RowKit Q Go.Proofs.YtmfcbfgijimliaaW.PrintWords Go.Proofs.YtmfcbfgijimliaaW.PrintLast Go.Proofs.YtmfcbfgijimliaaW.PrintMore
def encK (l : List Nat) : Nat → List UInt8
  | 0 => []
  | k + 1 => encK l k ++ enc (l.getD k 0)
theorem encK_len (l : List Nat) (h : ∀ k, l.getD k 0 < 2 ^ 56) (k : Nat) : (encK l k).length ≤ 8 * k := by
  induction k with
  | zero => exact Nat.le_refl _
  | succ k ih =>
    rw [encK, List.length_append]
    have := enc_len8 (h k)
    omega
theorem number_B (n : Nat) (h : n < 2 ^ 56) (w : World) : Calls Try.prog 56 #[.int .i64 (n : Int)] w fun e w' => e = .returned (.string (B (enc n))) ∧ Below w.heap.size w w' :=
  pack_Number.calls 20 _ _ w (number_f n 20 h (Nat.le_refl _))
end Go.Proofs.Ytmfcbfgijimliaa
end
section
namespace Go.Proofs.Ytmfcbfgijimliaa
open Go.RowKit
def BT (T : TypeId) : Prop := T ≠ 5 ∧ liesAt Try.prog Try.prog.depth T (2 / Try.prog.cellsOf T) 0 72 1 = true
theorem bt_builder : BT 72 := ⟨by decide, by kernel_rfl⟩
def BdAt (B b : Nat) (p v : Value) (l : List UInt8) (w : World) : Prop :=
  ∃ T, BT T ∧ w.heap[b]? = some (.cells #[p, v] T (0, 0)) ∧ w.ownsRowF B 5 1 v l.length (Lib.byteCells l) ∧ v.ownBlock ≠ some b ∧ (l = [] → v = .slice none 0 0)
def Bd (B b : Nat) (l : List UInt8) (w : World) : Prop :=
  ∃ p v, (p = .pointer none ∨ p = .pointer (some ⟨b, 0, none⟩)) ∧ BdAt B b p v l w
structure Bf (B b : Nat) (w w' : World) : Prop where
  os : w'.os = w.os
  tape : w'.tape = w.tape
  output : w'.output = w.output
  size : w.heap.size ≤ w'.heap.size
  block : ∀ k, k < B → k ≠ b → w'.heap[k]? = w.heap[k]?
theorem Bf.refl (B b : Nat) (w : World) : Bf B b w w := ⟨rfl, rfl, rfl, Nat.le_refl _, fun _ _ _ => rfl⟩
theorem Bf.trans {B b : Nat} {w w1 w2 : World} (h : Bf B b w w1) (k : Bf B b w1 w2) : Bf B b w w2 :=
  ⟨k.os.trans h.os, k.tape.trans h.tape, k.output.trans h.output, Nat.le_trans h.size k.size, fun i hi hne => (k.block i hi hne).trans (h.block i hi hne)⟩
theorem Bf.below {B b S : Nat} {w w' : World} (h : Bf B b w w') (h1 : S ≤ B) (h2 : S ≤ b) : Below S w w' :=
  ⟨h.os, h.tape, h.output, h.size, fun k hk => h.block k (by omega) (by omega)⟩
theorem Bf.of_below {B b : Nat} {w w' : World} (h : Below w.heap.size w w') (hB : B ≤ w.heap.size) : Bf B b w w' :=
  ⟨h.os, h.tape, h.output, h.size, fun k hk _ => h.block k (by omega)⟩
theorem Bf.cell {B b : Nat} {w w' : World} (h : Bf B b w w') {a : Addr} {v : Value} (hc : w.cell? a = some v) (h1 : a.block < B) (h2 : a.block ≠ b) : w'.cell? a = some v :=
  (World.cell?_of_block (h.block a.block h1 h2)).trans hc
theorem BdAt.keep {B b : Nat} {p v : Value} {l : List UInt8} {w w' : World} (h : BdAt B b p v l w) (hk : ∀ k, k < w.heap.size → w'.heap[k]? = w.heap[k]?) : BdAt B b p v l w' := by
  obtain ⟨T, hT, h1, h2, h3, h4⟩ := h
  have hlt := (Array.getElem?_eq_some_iff.1 h1).1
  refine ⟨T, hT, (hk b hlt).trans h1, ⟨h2.1, ?_⟩, h3, h4⟩
  rcases h2.2 with hn | ⟨g, cap, cur, fz, rfl, hb, hg, rest⟩
  · exact .inl hn
  · exact .inr ⟨g, cap, cur, fz, rfl, hb, (hk g (Array.getElem?_eq_some_iff.1 hg).1).trans hg, rest⟩
theorem Bd.keep {B b : Nat} {l : List UInt8} {w w' : World} (h : Bd B b l w) (hb : Below w.heap.size w w') : Bd B b l w' := by
  obtain ⟨p, v, hp, h⟩ := h
  exact ⟨p, v, hp, h.keep hb.block⟩
theorem Bd.lt {B b : Nat} {l : List UInt8} {w : World} (h : Bd B b l w) : b < w.heap.size := by
  obtain ⟨p, v, hp, T, hT, h⟩ := h
  exact (Array.getElem?_eq_some_iff.1 h.1).1
theorem Bd.freshT {T : TypeId} (hT : BT T) (B b : Nat) (w : World) (h : w.heap[b]? = some (.cells #[.pointer none, .slice none 0 0] T (0, 0))) : Bd B b [] w :=
  ⟨_, _, .inl rfl, T, hT, h, World.ownsRowF_nil w B _ 1, by simp [Value.ownBlock], fun _ => rfl⟩
theorem Bd.fresh (B b : Nat) (w : World) (h : w.heap[b]? = some (.cells #[.pointer none, .slice none 0 0] 72 (0, 0))) : Bd B b [] w := Bd.freshT bt_builder B b w h
theorem Bd.new (B : Nat) (w : World) : Bd B w.heap.size [] (w.alloc (.cells #[.pointer none, .slice none 0 0] 72)) :=
  Bd.fresh B _ _ (heap_alloc_new w _)
set_option maxHeartbeats 1000000 in
set_option maxRecDepth 100000 in
theorem bcc_fresh (B b : Nat) (v : Value) (l : List UInt8) (w : World) (h : BdAt B b (.pointer none) v l w) :
    Calls Try.prog 55 #[.pointer (some ⟨b, 0, none⟩)] w fun e w' => e = .returned (.tuple #[]) ∧ w' = w.setCell ⟨b, 0, none⟩ (.pointer (some ⟨b, 0, none⟩)) := by
  obtain ⟨T, hT, h⟩ := h
  have h0 : w.cell? ⟨b, 0, none⟩ = some (.pointer none) := by simp [World.cell?, h.1]
  have hsh : w.shape? b = some (T, 2) := by simp [World.shape?, h.1]
  have hfz : w.frozen? ⟨b, 0, none⟩ = false := by simp [World.frozen?, h.1]
  obtain ⟨j, hj, hjs⟩ := Option.map_eq_some_iff.1 (show (Try.prog.info? 72).map (·.size) = some 2 by kernel_rfl)
  clear h
  go_enter Try.func55, Try.ntmps55
  go_wp2
  rw [Lib.run_to_unsafe w ⟨b, 0, none⟩ (t := 72) (by kernel_rfl) (by kernel_rfl) hj (by rw [hjs]; decide) hsh (Nat.zero_lt_succ 1)]
  simp only [Result.andThen]
  rw [Oper.upon_value]
  go_wp2
  rw [run_callFunc_extern Try.func76 (by kernel_rfl) (by kernel_rfl) (by kernel_rfl) (e := Extern.AbiNoEscape.same) (by kernel_rfl)]
  rw [Lib.run_noEscape]
  simp only [Result.andThen]
  rw [Oper.upon_value]
  go_wp2
  rw [Lib.run_from_unsafe w ⟨b, 0, none⟩ (u := 72) (by kernel_rfl) (by kernel_rfl) hj hsh hT.2]
  simp only [Result.andThen]
  rw [Oper.upon_value]
  go_wp2
  go_end0
  exact ⟨rfl, rfl⟩
set_option maxHeartbeats 1000000 in
set_option maxRecDepth 100000 in
theorem bcc_used (B b : Nat) (v : Value) (l : List UInt8) (w : World) (h : BdAt B b (.pointer (some ⟨b, 0, none⟩)) v l w) :
    Calls Try.prog 55 #[.pointer (some ⟨b, 0, none⟩)] w fun e w' => e = .returned (.tuple #[]) ∧ w' = w := by
  obtain ⟨T, hT, h⟩ := h
  have h0 : w.cell? ⟨b, 0, none⟩ = some (.pointer (some ⟨b, 0, none⟩)) := by simp [World.cell?, h.1]
  obtain ⟨j, hj, _⟩ := Option.map_eq_some_iff.1 (show (Try.prog.info? 72).map (·.size) = some 2 by kernel_rfl)
  clear h
  go_enter Try.func55, Try.ntmps55
  go_wp2
  rw [Lib.run_neq_ptr_same w _ (te := 72) (by kernel_rfl) hj]
  go_wp2
  go_end0
  exact ⟨rfl, rfl⟩
theorem BdAt.used {B b : Nat} {p v : Value} {l : List UInt8} {w : World} (h : BdAt B b p v l w) (q : Value) : BdAt B b q v l (w.setCell ⟨b, 0, none⟩ q) := by
  obtain ⟨T, hT, h1, h2, h3, h4⟩ := h
  refine ⟨T, hT, ?_, ?_, h3, h4⟩
  · simp [World.setCell, Array.getElem?_modify, h1]
  · exact h2.kept (row := some b) ⟨rfl, rfl, rfl, by simp [World.setCell], fun k _ hk => Below.heap_setCell _ _ _ _ (fun e => hk (by simp [e]))⟩ (Or.inr h3)
structure Cf (b : Nat) (w w' : World) : Prop where
  os : w'.os = w.os
  tape : w'.tape = w.tape
  output : w'.output = w.output
  size : w'.heap.size = w.heap.size
  block : ∀ k, k ≠ b → w'.heap[k]? = w.heap[k]?
theorem bcc (B b : Nat) (l : List UInt8) (w : World) (h : Bd B b l w) :
    Calls Try.prog 55 #[.pointer (some ⟨b, 0, none⟩)] w fun e w' => e = .returned (.tuple #[]) ∧ (∃ v, BdAt B b (.pointer (some ⟨b, 0, none⟩)) v l w') ∧ Cf b w w' := by
  obtain ⟨p, v, rfl | rfl, h⟩ := h
  · refine (bcc_fresh B b v l w h).mono ?_
    rintro e w' ⟨rfl, rfl⟩
    exact ⟨rfl, ⟨v, h.used _⟩, ⟨rfl, rfl, rfl, by simp [World.setCell], fun k hk => Below.heap_setCell _ _ _ _ (fun e => hk e)⟩⟩
  · refine (bcc_used B b v l w h).mono ?_
    rintro e w' ⟨rfl, rfl⟩
    exact ⟨rfl, ⟨v, h⟩, ⟨rfl, rfl, rfl, rfl, fun _ _ => rfl⟩⟩
theorem BdAt.put {B b : Nat} {p v v' : Value} {l' : List UInt8} {w : World} {T : TypeId} (hT : BT T) (hb : w.heap[b]? = some (.cells #[p, v] T (0, 0))) (hown : w.ownsRowF B 5 1 v' l'.length (Lib.byteCells l')) (h0 : l' = [] → v' = .slice none 0 0) :
    BdAt B b p v' l' (w.setCell ⟨b, 1, none⟩ v') := by
  have hne := Lib.ownBlock_neF hown hb hT.1
  refine ⟨T, hT, ?_, ?_, hne, h0⟩
  · simp [World.setCell, Array.getElem?_modify, hb]
  · exact hown.kept (row := some b) ⟨rfl, rfl, rfl, by simp [World.setCell], fun k _ hk => Below.heap_setCell _ _ _ _ (fun e => hk (by simp [e]))⟩ (Or.inr hne)
theorem Bf.write {B b : Nat} {v v' : Value} {l : List UInt8} {w w1 w1' w2 : World} (hc : Cf b w w1) (hB : B ≤ w.heap.size) (ha : Below w1.heap.size w1 w1') (hown : w1'.ownsRowF B 5 1 v l.length (Lib.byteCells l)) (hg : w1'.grownBy w2 v.ownBlock) :
    Bf B b w (w2.setCell ⟨b, 1, none⟩ v') := by
  have hs := hc.size
  refine ⟨hg.os.trans (ha.os.trans hc.os), hg.tape.trans (ha.tape.trans hc.tape), hg.output.trans (ha.output.trans hc.output), ?_, fun k hk hne => ?_⟩
  · have := ha.size; have := hg.size; simp [World.setCell]; omega
  · have hlt := hown.lt
    rw [show (w2.setCell ⟨b, 1, none⟩ v').heap[k]? = w2.heap[k]? from Below.heap_setCell _ _ _ _ (fun e => hne e), hg.block k (by have := ha.size; omega) (fun e => by have := hlt k e.symm; omega), ha.block k (by omega), hc.block k hne]
theorem info8 : ∃ i, Try.prog.info? 5 = some i ∧ i.zero = some (.int .u8 0) ∧ i.size = 1 ∧ i.bytes = 1 := info_parts (by kernel_rfl)
set_option maxHeartbeats 1000000 in
set_option maxRecDepth 100000 in
theorem bString_cons (B b : Nat) (l : List UInt8) (w : World) (h : Bd B b l w) (h0 : l ≠ []) :
    Calls Try.prog 36 #[.pointer (some ⟨b, 0, none⟩)] w fun e w' => e = .returned (.string ⟨l.toArray⟩) ∧ Bf B b w w' := by
  obtain ⟨p, v, hp, T, hT, hbk, hown, hne, _⟩ := h
  have hl0 : l.length ≠ 0 := by simpa using h0
  obtain ⟨g, cap, cur, fz, rfl, hbg, hg, hfz, hnc, hcm, hcs, htake⟩ : ∃ g cap cur fz, v = .slice (some ⟨g, 0, none⟩) l.length cap ∧ B ≤ g ∧ w.heap[g]? = some (.cells cur 5 fz) ∧ fz.2 ≤ l.length * 1 ∧ l.length ≤ cap ∧ cap ≤ maxLen ∧ cur.size = cap * 1 ∧ cur.toList.take (l.length * 1) = Lib.byteCells l := by
    rcases hown.2 with ⟨_, hz⟩ | ⟨g, cap, cur, fz, hv, r⟩
    · exact absurd hz hl0
    · exact ⟨g, cap, cur, fz, hv, r⟩
  have c1 : w.drew.cell? ⟨b, 1, none⟩ = some (.slice (some ⟨g, 0, none⟩) l.length cap) := by
    have : w.drew.heap[b]? = some (.cells #[p, .slice (some ⟨g, 0, none⟩) l.length cap] T (0, 0)) := hbk
    rw [Lib.cell_of_heap this]; rfl
  have hSD : (Builtin.unsafeSliceData_ #[70] 106 #[.slice (some ⟨g, 0, none⟩) l.length cap]).run Try.prog w.drew = .ok (.pointer (some ⟨g, 0, none⟩)) w.drew :=
    Lib.run_unsafeSliceData_row _ _ _ _ _ _ (by omega)
  have hUS : (Builtin.unsafeString_ #[106, 3] 9 #[.pointer (some ⟨g, 0, none⟩), .int .i64 l.length]).run Try.prog w.drew = .ok (.string ⟨l.toArray⟩) (w.drew.freeze ⟨g, 0, none⟩ l.length) := by
    refine Lib.run_unsafeString_row w.drew 106 3 9 5 (by kernel_rfl) (by kernel_rfl) g cur.size (by have hg' : w.drew.heap[g]? = some (.cells cur 5 fz) := hg; simp [World.shape?, hg']) l h0 (by omega) (by unfold maxLen at hcm; omega) ?_
    intro j x hx
    have := hown.cells (g := g) rfl j (.int .u8 x.toNat) (by simp [Lib.byteCells, hx])
    exact this
  have hfin : Bf B b w (w.drew.freeze ⟨g, 0, none⟩ l.length) := by
    have := Lib.below_freeze (Below.drew (Below.refl B w)) (p := ⟨g, 0, none⟩) hbg l.length
    exact ⟨this.os, this.tape, this.output, this.size, fun k hk _ => this.block k hk⟩
  have HF := Lib.hid hfin
  have mixed : Try.prog.follows Departure.mixedOrders = true := by kernel_rfl
  clear hfin hown hp hbk
  go_enter Try.func36, Try.ntmps36
  go_wp2
  go_region_o
  all_goals (go_wp2; go_ret; exact ⟨rfl, HF.out⟩)
set_option maxHeartbeats 1000000 in
set_option maxRecDepth 100000 in
theorem bString_nil (B b : Nat) (w : World) (h : Bd B b [] w) :
    Calls Try.prog 36 #[.pointer (some ⟨b, 0, none⟩)] w fun e w' => e = .returned (.string ⟨#[]⟩) ∧ Bf B b w w' := by
  obtain ⟨p, v, hp, T, hT, hbk, hown, hne, hv⟩ := h
  obtain rfl := hv rfl
  have hUS : ∀ W, (Builtin.unsafeString_ #[106, 3] 9 #[.pointer none, .int .i64 0]).run Try.prog W = .ok (.string .empty) W := fun W => Lib.run_unsafeString_none W _ _ _ none
  have c1 : w.drew.cell? ⟨b, 1, none⟩ = some (.slice none 0 0) := by
    have : w.drew.heap[b]? = some (.cells #[p, .slice none 0 0] T (0, 0)) := hbk
    rw [Lib.cell_of_heap this]; rfl
  have hSD : ∀ W, (Builtin.unsafeSliceData_ #[70] 106 #[.slice none 0 0]).run Try.prog W = .ok (.pointer none) W := fun _ => rfl
  have hfin : Bf B b w w.drew := by
    have := Below.drew (Below.refl B w)
    exact ⟨this.os, this.tape, this.output, this.size, fun k hk _ => this.block k hk⟩
  have HF := Lib.hid hfin
  have mixed : Try.prog.follows Departure.mixedOrders = true := by kernel_rfl
  clear hfin hown hp hbk hv
  go_enter Try.func36, Try.ntmps36
  go_wp2
  go_region_o
  all_goals (go_wp2; go_ret; exact ⟨rfl, HF.out⟩)
theorem bString (B b : Nat) (l : List UInt8) (w : World) (h : Bd B b l w) :
    Calls Try.prog 36 #[.pointer (some ⟨b, 0, none⟩)] w fun e w' => e = .returned (.string ⟨l.toArray⟩) ∧ Bf B b w w' := by
  cases l with
  | nil => exact bString_nil B b w h
  | cons x r => exact bString_cons B b (x :: r) w h (by simp)
end Go.Proofs.Ytmfcbfgijimliaa
end
section
namespace Go.Proofs.Ytmfcbfgijimliaa
open Go.RowKit
theorem strCells_bytes (m : List UInt8) : Lib.strCells (⟨m.toArray⟩ : ByteArray) = Lib.byteCells m := by
  simp [Lib.strCells, Lib.byteCells]
def Keeps (b : Nat) (w w' : World) : Prop := ∀ k c T f, w.heap[k]? = some (.cells c T f) → T ≠ 5 → k ≠ b → w'.heap[k]? = w.heap[k]?
theorem Keeps.refl (b : Nat) (w : World) : Keeps b w w := fun _ _ _ _ _ _ _ => rfl
theorem Keeps.trans {b : Nat} {w w1 w2 : World} (h : Keeps b w w1) (k : Keeps b w1 w2) : Keeps b w w2 := fun i c T f hi hT hne => (k i c T f ((h i c T f hi hT hne).trans hi) hT hne).trans (h i c T f hi hT hne)
set_option maxHeartbeats 2000000 in
set_option maxRecDepth 100000 in
theorem bWriteStringK (B b : Nat) (l m : List UInt8) (w : World) (h : Bd B b l w) (hm0 : m ≠ []) (hlen : l.length + m.length ≤ 140737488355328) (hB : B ≤ w.heap.size) :
    Calls Try.prog 32 #[.pointer (some ⟨b, 0, none⟩), .string ⟨m.toArray⟩] w fun e w' => e = .returned (.tuple #[.int .i64 m.length, .nilIface]) ∧ Bd B b (l ++ m) w' ∧ Bf B b w w' ∧ Keeps b w w' := by
  obtain ⟨i0, hi, hz0, hz1, hz2⟩ := info8
  have hsz : (⟨m.toArray⟩ : ByteArray).size = m.length := by
    show m.toArray.size = m.length
    exact List.size_toArray
  have HH := Lib.hid h
  have HL := Lib.hid hlen
  have HB := Lib.hid hB
  have H0 := Lib.hid hm0
  have HSC := Lib.hid (strCells_bytes m)
  clear h hlen hB hm0
  generalize (⟨m.toArray⟩ : ByteArray) = ms at *
  go_enter Try.func32, Try.ntmps32
  go_wp2_with (go_at_call 55; refine (bcc B b l _ HH.out).mono ?_)
  rintro e w1 ⟨rfl, ⟨v, hA⟩, hcf⟩
  obtain ⟨T, hT, hbk, hown, hne, h00⟩ := hA
  have HA : Hid (BdAt B b (.pointer (some ⟨b, 0, none⟩)) v l w1) := Lib.hid ⟨T, hT, hbk, hown, hne, h00⟩
  have HCF := Lib.hid hcf
  clear hcf h00
  have c0 : w1.cell? ⟨b, 0, none⟩ = some (.pointer (some ⟨b, 0, none⟩)) := by rw [Lib.cell_of_heap hbk]; rfl
  have c1 : w1.cell? ⟨b, 1, none⟩ = some v := by rw [Lib.cell_of_heap hbk]; rfl
  go_wp2_with (at_builtin; refine Lib.wpList_append_own_stringF _ rfl _ _ 70 9 rfl B 5 i0 (by kernel_rfl) (by kernel_rfl) hi hz0 hz1 hz2 _ _ _ rfl hown ms rfl ?c1 ?c2 ?c3 ?_)
  case c1 => have := HL.out; rw [hsz]; unfold maxLen; omega
  case c2 => have := HL.out; rw [hsz]; omega
  case c3 => have := HB.out; have := HCF.out.size; omega
  intro v' w2 hown' hgrow hv'
  have hlt : b < w1.heap.size := (Array.getElem?_eq_some_iff.1 hbk).1
  have hb2 : w2.heap[b]? = some (.cells #[.pointer (some ⟨b, 0, none⟩), v] T (0, 0)) := by
    rw [hgrow.block b hlt (fun e => hne e.symm)]
    exact hbk
  have d0 : w2.cell? ⟨b, 0, none⟩ = some (.pointer (some ⟨b, 0, none⟩)) := by rw [Lib.cell_of_heap hb2]; rfl
  have d1 : w2.cell? ⟨b, 1, none⟩ = some v := by rw [Lib.cell_of_heap hb2]; rfl
  have f1 : w2.frozen? ⟨b, 1, none⟩ = false := Lib.frozen_of_heap hb2 1
  have hcs : Lib.byteCells (l ++ m) = Lib.byteCells l ++ Lib.strCells ms := by rw [Lib.byteCells_append, HSC.out]
  have HP : Hid (BdAt B b (.pointer (some ⟨b, 0, none⟩)) v' (l ++ m) (w2.setCell ⟨b, 1, none⟩ v')) := Lib.hid (BdAt.put hT hb2 (by rw [List.length_append, hcs]; exact hown') (fun h => absurd (List.append_eq_nil_iff.1 h).2 H0.out))
  have HQ : Hid (Bf B b w (w2.setCell ⟨b, 1, none⟩ v')) := Lib.hid (Bf.write (l := l) HCF.out HB.out (Below.refl _ _) hown hgrow)
  have HKE : Hid (Keeps b w (w2.setCell ⟨b, 1, none⟩ v')) := Lib.hid (fun k c T2 f hk hT2 hkb => by
    have h1 : w1.heap[k]? = w.heap[k]? := HCF.out.block k hkb
    have hkl : k < w1.heap.size := (Array.getElem?_eq_some_iff.1 (h1.trans hk)).1
    have h2 : w2.heap[k]? = w1.heap[k]? := hgrow.block k hkl (fun e => by
      obtain ⟨c2, f2, h3⟩ := Lib.ownsRowF_kind hown k e.symm
      rw [h1.trans hk] at h3
      exact hT2 (by injection h3 with h3; injection h3))
    exact (Below.heap_setCell _ _ _ _ (fun e => hkb e)).trans (h2.trans h1))
  obtain ⟨g, cap, rfl⟩ : ∃ g cap, v' = .slice (some ⟨g, 0, none⟩) (l.length + m.length) cap := by
    rcases hown'.2 with ⟨_, h0⟩ | ⟨g, cap, cur, fz, hv, _⟩
    · have := H0.out
      have : m.length ≠ 0 := by simpa using this
      omega
    · exact ⟨g, cap, hv⟩
  clear hv' hgrow hown' hown hbk hb2 hcs
  go_wp2
  go_ret2
  exact ⟨rfl, ⟨_, _, .inr rfl, HP.out⟩, HQ.out, HKE.out⟩
end Go.Proofs.Ytmfcbfgijimliaa
end
section
namespace Go.Proofs.Ytmfcbfgijimliaa
open Go.RowKit Q Go.Proofs.YtmfcbfgijimliaaW.PrintWords Go.Proofs.YtmfcbfgijimliaaW.PrintLast Go.Proofs.YtmfcbfgijimliaaW.PrintMore
theorem bt_writer : BT 74 := ⟨by decide, by kernel_rfl⟩
theorem Keeps.below {b : Nat} {w w' : World} (h : Below w.heap.size w w') : Keeps b w w' := fun k _ _ _ hk _ _ => h.block k (Array.getElem?_eq_some_iff.1 hk).1
theorem Keeps.blk {b g : Nat} {c : Array Value} {T : TypeId} {w w' : World} (h : Keeps b w w') (hb : Blk w g c T) (hT : T ≠ 5) (hne : g ≠ b) : Blk w' g c T := (h g c T _ hb hT hne).trans hb
set_option maxRecDepth 100000 in
set_option maxHeartbeats 1000000 in
theorem wnum_calls (q b : Nat) (acc : List UInt8) (g cp : Nat) (l : List Nat) (n : Nat) (hn : n ≤ 100) (hb : ∀ k, l.getD k 0 < 2 ^ 56) (w : World) (hD : Bd q b acc w) (hacc : acc.length ≤ 100000) (hq : q ≤ w.heap.size) (hgb : g ≠ b) (cs : Array Value) (hg : Blk w g cs 3) (hc : ∀ j, j < n → cs[j]? = some (.int .i64 (l.getD j 0 : Nat))) :
    Calls Try.prog 33 #[.pointer (some ⟨b, 0, none⟩), .slice (some ⟨g, 0, none⟩) n cp] w fun e w' => e = .returned (.tuple #[]) ∧ Bd q b (acc ++ encK l n) w' ∧ Bf q b w w' ∧ Keeps b w w' := by
  have HC := Lib.hid hc
  have HG := Lib.hid hg
  have HB := Lib.hid hb
  have HL := Lib.hid (encK_len l hb)
  have HQ := Lib.hid hq
  have HA := Lib.hid hacc
  have HGB := Lib.hid hgb
  have HD := Aside0.mk (show Bd q b (acc ++ encK l 0) w by rw [encK, List.append_nil]; exact hD)
  clear hc hg hb hq hacc hgb hD
  go_enter Try.func33, Try.ntmps33
  go_wp2_with fail
  go_loopw [8] (fun i wr => ∃ k : Nat, k ≤ n ∧ i = .int .i64 k ∧ Aside0 (Bd q b (acc ++ encK l k) wr) ∧ Aside0 (Bf q b w wr) ∧ Aside0 (Keeps b w wr)) (fun i _ => n - (intOf i).toNat)
  case atStart => exact ⟨0, by omega, rfl, HD, ⟨Bf.refl _ _ _⟩, ⟨Keeps.refl _ _⟩⟩
  case round =>
    clear HD
    obtain ⟨k, hk, rfl, HD, HF, HK⟩ := hrel
    by_cases hlt : k < n
    · have hcw := (HK.out.blk HG.out (by decide) HGB.out).cell (HC.out k hlt)
      have hE : Hid (acc ++ encK l (k + 1) = (acc ++ encK l k) ++ enc (l.getD k 0)) := Lib.hid (by rw [encK, List.append_assoc])
      have hx := Lib.hid (HB.out k)
      have hlen := Lib.hid (HL.out k)
      generalize l.getD k 0 = x at *
      have hqs := Lib.hid (Nat.le_trans HQ.out HF.out.size)
      have HNE := Lib.hid (enc_ne x)
      have hl8 := Lib.hid (enc_len8 hx.out)
      go_wp2_with fail
      refine region_below_tail 5 (by kernel_rfl) (by kernel_rfl) ?_
      simp only [List.take_succ_cons, List.take_zero, List.drop_succ_cons, List.drop_zero]
      repeat (first | go_big_quiet_step (fail) | (refine BigFrame.wpQuiet_want (by rfl) (fun K hK => ?_); go_big_quiet_op; refine ⟨_, fun _ _ => rfl, hK _ ?_⟩; clear hK K) | (refine q_go (f := 56) Try.func56 (by kernel_rfl) rfl #[.int .i64 (x : Int)] _ _ rfl rfl rfl (by simp only [List.map_toArray, List.map_cons, List.map_nil]; rfl) (fun w' _ => number_B x hx.out w') ?_; simp only [Act.put, List.setIfInBounds_toArray, List.set_cons_zero, List.set_cons_succ]))
      refine wpQuiet_nil ?_
      intro w3 b3
      have HD2 := Aside0.mk (HD.out.keep b3)
      have HF2 := Aside0.mk (HF.out.trans (Bf.of_below b3 hqs.out))
      have HK2 := Aside0.mk (HK.out.trans (Keeps.below b3))
      have hq3 := Lib.hid (Nat.le_trans hqs.out b3.size)
      clear b3 hcw HD HF HK
      go_wp2_with fail
      refine Calls.mono (bWriteStringK q b (acc ++ encK l k) (enc x) w3 HD2.out HNE.out (by have := HA.out; have := hlen.out; have := hl8.out; rw [List.length_append]; omega) hq3.out) ?_
      rintro e w4 ⟨rfl, hD4, hF4, hK4⟩
      rw [← hE.out] at hD4
      replace HD2 := Aside0.mk hD4
      replace HF2 := Aside0.mk (HF2.out.trans hF4)
      replace HK2 := Aside0.mk (HK2.out.trans hK4)
      clear hD4 hF4 hK4
      go_wp2_with fail
      go_roundw
      case rel => exact ⟨k + 1, by omega, by go_num, HD2, HF2, HK2⟩
      case measure => simp [intOf]; omega
    · obtain rfl : k = n := by omega
      go_wp2_with fail
      go_end0
      exact ⟨rfl, HD.out, HF.out, HK.out⟩
end Go.Proofs.Ytmfcbfgijimliaa
end
section
namespace Go.Proofs.Ytmfcbfgijimliaa
open Go.RowKit Q Go.Proofs.YtmfcbfgijimliaaW.PrintWords Go.Proofs.YtmfcbfgijimliaaW.PrintLast Go.Proofs.YtmfcbfgijimliaaW.PrintMore
set_option linter.unusedSimpArgs false
def locsT (l : List S83) : Nat → List UInt8
  | 0 => []
  | k + 1 => locsT l k ++ encK [(rd_T83 l k).f0.toNat, (rd_T83 l k).f1.toNat] 2
def headT (r : RecP) : List UInt8 := [83, 74] ++ encK [r.seq.toNat, r.kind.toNat] 2
def volT (r : RecP) : List UInt8 := (headT r ++ encK [r.id.toNat, r.gen.toNat, r.len.toNat] 3) ++ locsT r.locs r.locs.length
def recT (r : RecP) : List UInt8 :=
  if r.kind = 1 then headT r ++ txt r.key.data.toList
  else if r.kind = 0 then ((volT r ++ txt r.ekey.data.toList) ++ encK [r.eoff.toNat, r.elen.toNat] 2) ++ r.dig.data.toList
  else if r.kind = 3 then volT r ++ encK [r.frm.toNat, r.til.toNat] 2
  else volT r
def recW (r : RecP) : ByteArray × Int := if chkR r = 0 then (B (sealL (recT r)), 0) else (B [], chkR r)
theorem inB_iff (n m : Int) : inB n m = true ↔ 0 ≤ n ∧ n ≤ m := by unfold inB; simp
theorem if_zero {c : Prop} [Decidable c] {x y : Int} (h : (if c then x else y) = 0) (hy : y ≠ 0) : c ∧ x = 0 := by
  by_cases hc : c
  · rw [if_pos hc] at h; exact ⟨hc, h⟩
  · rw [if_neg hc] at h; exact absurd h hy
theorem if_one {c : Prop} [Decidable c] {x y : Int} (h : (if c then x else y) = 0) (hx : x ≠ 0) : ¬ c ∧ y = 0 := by
  by_cases hc : c
  · rw [if_pos hc] at h; exact absurd h hx
  · rw [if_neg hc] at h; exact ⟨hc, h⟩
structure VolOk (id gen len : Int) (l : List S83) : Prop where
  i : 0 ≤ id ∧ id ≤ 1099511627776
  g : 0 ≤ gen ∧ gen ≤ 1099511627776
  n : 0 ≤ len ∧ len ≤ 384
  nine : l.length = 9
  locs : ∀ k : Nat, k < 9 → (0 ≤ (rd_T83 l k).f0 ∧ (rd_T83 l k).f0 ≤ 11) ∧ (0 ≤ (rd_T83 l k).f1 ∧ (rd_T83 l k).f1 ≤ 47)
theorem vol_ok {id gen len : Int} {l : List S83} (h : volP id gen len l = true) : VolOk id gen len l := by
  unfold volP at h
  simp only [Bool.and_eq_true, decide_eq_true_eq, inB_iff] at h
  obtain ⟨ha, hi, hg, hn, h9, _⟩ := h
  refine ⟨hi, hg, hn, by omega, fun k hk => ?_⟩
  have hm : rd_T83 l k ∈ l := by
    unfold rd_T83
    rw [Int.toNat_natCast, List.getD, List.getElem?_eq_getElem (by omega)]
    exact List.getElem_mem _
  have := List.all_eq_true.1 ha _ hm
  unfold locOk at this
  simp only [Bool.and_eq_true, inB_iff] at this
  exact this
theorem key_ok {l : List UInt8} (h : plainK l = true) : l.length ≤ 32 ∧ 1 ≤ l.length := by
  unfold plainK at h
  simp only [Bool.and_eq_true, decide_eq_true_eq] at h
  exact ⟨h.2.2, h.2.1⟩
theorem chk0_0 (q0 q2 q3 q4 : Int) (l : List S83) (q6 : ByteArray) (q7 q8 q9 : Int) (q10 q11 : ByteArray) (q12 q13 : Int) (h : chkR (⟨q0, 0, q2, q3, q4, l, q6, q7, q8, q9, q10, q11, q12, q13⟩ : RecP) = 0) : (0 ≤ q0 ∧ q0 ≤ 63) ∧ VolOk q2 q3 q4 l ∧ plainK q6.data.toList = true ∧ q7 = q2 ∧ (0 ≤ q8 ∧ q8 ≤ q4) ∧ (0 ≤ q9 ∧ q9 ≤ q4 - q8) ∧ q10.size = 32 ∧ namedP (⟨q0, 0, q2, q3, q4, l, q6, q7, q8, q9, q10, q11, q12, q13⟩ : RecP) = (⟨q0, 0, q2, q3, q4, l, q6, q7, q8, q9, q10, q11, q12, q13⟩ : RecP) := by
  rw [show chkR (⟨q0, 0, q2, q3, q4, l, q6, q7, q8, q9, q10, q11, q12, q13⟩ : RecP) = if inB q0 63 = true then (if volR (⟨q0, 0, q2, q3, q4, l, q6, q7, q8, q9, q10, q11, q12, q13⟩ : RecP) = true then (if plainK q6.data.toList = true then (if (q7 == q2) = true then (if inB q8 q4 = true then (if inB q9 (wrap64 (q4 - q8)) = true then (if ((q10.size : Int) == 32) = true then finP (⟨q0, 0, q2, q3, q4, l, q6, q7, q8, q9, q10, q11, q12, q13⟩ : RecP) else 1) else 1) else 1) else 1) else 11) else 1) else 1 from rfl] at h
  obtain ⟨h0, h⟩ := if_zero h (by decide)
  obtain ⟨h1, h⟩ := if_zero h (by decide)
  obtain ⟨h2, h⟩ := if_zero h (by decide)
  obtain ⟨h3, h⟩ := if_zero h (by decide)
  obtain ⟨h4, h⟩ := if_zero h (by decide)
  obtain ⟨h5, h⟩ := if_zero h (by decide)
  obtain ⟨h6, h⟩ := if_zero h (by decide)
  obtain ⟨h7, _⟩ := if_zero h (by decide)
  rw [inB_iff] at h0 h4 h5
  have hv := vol_ok h1
  have hn := hv.n
  refine ⟨h0, hv, h2, by simpa using h3, h4, ?_, ?_, by simpa using h7⟩
  · unfold wrap64 at h5; omega
  · have : (q10.size : Int) = 32 := by simpa using h6
    omega
theorem chk0_1 (q0 q2 q3 q4 : Int) (l : List S83) (q6 : ByteArray) (q7 q8 q9 : Int) (q10 q11 : ByteArray) (q12 q13 : Int) (h : chkR (⟨q0, 1, q2, q3, q4, l, q6, q7, q8, q9, q10, q11, q12, q13⟩ : RecP) = 0) : (0 ≤ q0 ∧ q0 ≤ 63) ∧ plainK q11.data.toList = true ∧ namedP (⟨q0, 1, q2, q3, q4, l, q6, q7, q8, q9, q10, q11, q12, q13⟩ : RecP) = (⟨q0, 1, q2, q3, q4, l, q6, q7, q8, q9, q10, q11, q12, q13⟩ : RecP) := by
  rw [show chkR (⟨q0, 1, q2, q3, q4, l, q6, q7, q8, q9, q10, q11, q12, q13⟩ : RecP) = if inB q0 63 = true then (if plainK q11.data.toList = true then finP (⟨q0, 1, q2, q3, q4, l, q6, q7, q8, q9, q10, q11, q12, q13⟩ : RecP) else 11) else 1 from rfl] at h
  obtain ⟨h0, h⟩ := if_zero h (by decide)
  obtain ⟨h1, h⟩ := if_zero h (by decide)
  obtain ⟨h7, _⟩ := if_zero h (by decide)
  rw [inB_iff] at h0
  exact ⟨h0, h1, by simpa using h7⟩
theorem chk0_2 (q0 q2 q3 q4 : Int) (l : List S83) (q6 : ByteArray) (q7 q8 q9 : Int) (q10 q11 : ByteArray) (q12 q13 : Int) (h : chkR (⟨q0, 2, q2, q3, q4, l, q6, q7, q8, q9, q10, q11, q12, q13⟩ : RecP) = 0) : (0 ≤ q0 ∧ q0 ≤ 63) ∧ VolOk q2 q3 q4 l ∧ namedP (⟨q0, 2, q2, q3, q4, l, q6, q7, q8, q9, q10, q11, q12, q13⟩ : RecP) = (⟨q0, 2, q2, q3, q4, l, q6, q7, q8, q9, q10, q11, q12, q13⟩ : RecP) := by
  rw [show chkR (⟨q0, 2, q2, q3, q4, l, q6, q7, q8, q9, q10, q11, q12, q13⟩ : RecP) = if inB q0 63 = true then (if volR (⟨q0, 2, q2, q3, q4, l, q6, q7, q8, q9, q10, q11, q12, q13⟩ : RecP) = true then finP (⟨q0, 2, q2, q3, q4, l, q6, q7, q8, q9, q10, q11, q12, q13⟩ : RecP) else 1) else 1 from rfl] at h
  obtain ⟨h0, h⟩ := if_zero h (by decide)
  obtain ⟨h1, h⟩ := if_zero h (by decide)
  obtain ⟨h7, _⟩ := if_zero h (by decide)
  rw [inB_iff] at h0
  exact ⟨h0, vol_ok h1, by simpa using h7⟩
theorem chk0_3 (q0 q2 q3 q4 : Int) (l : List S83) (q6 : ByteArray) (q7 q8 q9 : Int) (q10 q11 : ByteArray) (q12 q13 : Int) (h : chkR (⟨q0, 3, q2, q3, q4, l, q6, q7, q8, q9, q10, q11, q12, q13⟩ : RecP) = 0) : (0 ≤ q0 ∧ q0 ≤ 63) ∧ VolOk q2 q3 q4 l ∧ (0 ≤ q12 ∧ q12 ≤ 1099511627776) ∧ (0 ≤ q13 ∧ q13 ≤ 1099511627776) ∧ q12 ≠ q13 ∧ namedP (⟨q0, 3, q2, q3, q4, l, q6, q7, q8, q9, q10, q11, q12, q13⟩ : RecP) = (⟨q0, 3, q2, q3, q4, l, q6, q7, q8, q9, q10, q11, q12, q13⟩ : RecP) := by
  rw [show chkR (⟨q0, 3, q2, q3, q4, l, q6, q7, q8, q9, q10, q11, q12, q13⟩ : RecP) = if inB q0 63 = true then (if volR (⟨q0, 3, q2, q3, q4, l, q6, q7, q8, q9, q10, q11, q12, q13⟩ : RecP) = true then (if inB q12 1099511627776 = true then (if inB q13 1099511627776 = true then (if (q12 == q13) = true then 1 else finP (⟨q0, 3, q2, q3, q4, l, q6, q7, q8, q9, q10, q11, q12, q13⟩ : RecP)) else 1) else 1) else 1) else 1 from rfl] at h
  obtain ⟨h0, h⟩ := if_zero h (by decide)
  obtain ⟨h1, h⟩ := if_zero h (by decide)
  obtain ⟨h2, h⟩ := if_zero h (by decide)
  obtain ⟨h3, h⟩ := if_zero h (by decide)
  obtain ⟨h4, h⟩ := if_one h (by decide)
  obtain ⟨h7, _⟩ := if_zero h (by decide)
  rw [inB_iff] at h0 h2 h3
  exact ⟨h0, vol_ok h1, h2, h3, by simpa using h4, by simpa using h7⟩
theorem bd_seal (x : List UInt8) (w : World) (h : x.length ≤ 1000) : Calls Try.prog 35 #[.string (B x)] w fun e w' => e = .returned (.string (B (sealL x))) ∧ Below w.heap.size w w' :=
  check_Seal.calls _ _ w (seal_f x (by omega))
theorem two_lt {a b : Nat} (ha : a < 2 ^ 56) (hb : b < 2 ^ 56) : ∀ k, [a, b].getD k 0 < 2 ^ 56
  | 0 => ha
  | 1 => hb
  | k + 2 => by simp
theorem three_lt {a b c : Nat} (ha : a < 2 ^ 56) (hb : b < 2 ^ 56) (hc : c < 2 ^ 56) : ∀ k, [a, b, c].getD k 0 < 2 ^ 56
  | 0 => ha
  | 1 => hb
  | 2 => hc
  | k + 3 => by simp
theorem two_cells (a b : Nat) : ∀ j, j < 2 → (#[.int .i64 (a : Int), .int .i64 (b : Int)] : Array Value)[j]? = some (.int .i64 (([a, b].getD j 0 : Nat) : Int))
  | 0, _ => rfl
  | 1, _ => rfl
theorem three_cells (a b c : Nat) : ∀ j, j < 3 → (#[.int .i64 (a : Int), .int .i64 (b : Int), .int .i64 (c : Int)] : Array Value)[j]? = some (.int .i64 (([a, b, c].getD j 0 : Nat) : Int))
  | 0, _ => rfl
  | 1, _ => rfl
  | 2, _ => rfl
theorem locsT_len {id gen len : Int} {l : List S83} (h : VolOk id gen len l) : ∀ k : Nat, k ≤ 9 → (locsT l k).length ≤ 16 * k
  | 0, _ => Nat.le_refl _
  | k + 1, hk => by
    have ih := locsT_len h k (by omega)
    have hv := h.locs k (by omega)
    have := encK_len [(rd_T83 l k).f0.toNat, (rd_T83 l k).f1.toNat] (two_lt (by omega) (by omega)) 2
    rw [locsT, List.length_append]
    omega
set_option maxRecDepth 100000 in
set_option maxHeartbeats 4000000 in
theorem rw_0 (s vi vg vn : Nat) (A : Option Addr) (c : Nat) (l : List S83) (q6 : ByteArray) (q7 : Int) (eo el : Nat) (q10 q11 : ByteArray) (q12 q13 : Int) (w : World) (hr : Kd.C k83 w A l.length l) (hl : l.length ≤ 1000) (hc : l.length ≤ c) (hz : chkR (⟨(s : Int), 0, (vi : Int), (vg : Int), (vn : Int), l, q6, q7, (eo : Int), (el : Int), q10, q11, q12, q13⟩ : RecP) = 0) (hs : s ≤ 63) (hv : VolOk vi vg vn l) (hk : q6.data.toList.length ≤ 32) (ho : eo ≤ 384) (he : el ≤ 384) (hd : q10.size = 32) : Calls Try.prog 24 #[.agg #[.int .i64 (s : Int), .int .i64 0, .int .i64 (vi : Int), .int .i64 (vg : Int), .int .i64 (vn : Int), (.slice A l.length c), .string q6, .int .i64 q7, .int .i64 (eo : Int), .int .i64 (el : Int), .string q10, .string q11, .int .i64 q12, .int .i64 q13]] w fun e w' => e = .returned (.tuple #[.string (B (sealL (recT (⟨(s : Int), 0, (vi : Int), (vg : Int), (vn : Int), l, q6, q7, (eo : Int), (el : Int), q10, q11, q12, q13⟩ : RecP)))), .int .i64 0]) ∧ Below w.heap.size w w' := by
  have hu0 := Try.underlying33
  have hu1 := Try.underlying55
  have hu2 := Try.underlying29
  have hu3 := Try.underlying31
  have hu4 := Try.underlying83
  have HRES : ∃ res, B (sealL (recT (⟨(s : Int), 0, (vi : Int), (vg : Int), (vn : Int), l, q6, q7, (eo : Int), (el : Int), q10, q11, q12, q13⟩ : RecP))) = res := ⟨_, rfl⟩
  obtain ⟨res, hres⟩ := HRES
  rw [hres]
  have HRES := Lib.hid hres
  clear hres
  have HZ := Lib.hid hz
  have HC := Lib.hid hr
  have HL := Lib.hid hl
  have HCC := Lib.hid hc
  have HV := Lib.hid hv
  have HK := Lib.hid hk
  have HO := Lib.hid ho
  have HE := Lib.hid he
  have HDG := Lib.hid hd
  have hvi := hv.i.2
  have hvg := hv.g.2
  have hvn := hv.n.2
  clear hk ho he hd hv
  clear hz hr hl hc
  have HB : Aside0 (Below w.heap.size w (w.alloc (.cells #[.int .i64 (s : Int), .int .i64 0, .int .i64 (vi : Int), .int .i64 (vg : Int), .int .i64 (vn : Int), (.slice A l.length c), .string q6, .int .i64 q7, .int .i64 (eo : Int), .int .i64 (el : Int), .string q10, .string q11, .int .i64 q12, .int .i64 q13] 55))) := ⟨below_alloc (Below.refl _ _) _⟩
  have HR : Aside0 (Blk (w.alloc (.cells #[.int .i64 (s : Int), .int .i64 0, .int .i64 (vi : Int), .int .i64 (vg : Int), .int .i64 (vn : Int), (.slice A l.length c), .string q6, .int .i64 q7, .int .i64 (eo : Int), .int .i64 (el : Int), .string q10, .string q11, .int .i64 q12, .int .i64 q13] 55)) w.heap.size #[.int .i64 (s : Int), .int .i64 0, .int .i64 (vi : Int), .int .i64 (vg : Int), .int .i64 (vn : Int), (.slice A l.length c), .string q6, .int .i64 q7, .int .i64 (eo : Int), .int .i64 (el : Int), .string q10, .string q11, .int .i64 q12, .int .i64 q13] 55) := ⟨Blk.new w _ _⟩
  obtain ⟨d0, d1, d2, d3, d4, d5, d6, d7, d8, d9, d10, d11, d12, d13⟩ := cells14 HR.out
  go_enter Try.func24, Try.ntmps24
  go_wp2_with fail
  clear d0 d1 d2 d3 d4 d5 d6 d7 d8 d9 d10 d11 d12 d13
  have hq0 := rchk_calls (⟨(s : Int), 0, (vi : Int), (vg : Int), (vn : Int), l, q6, q7, (eo : Int), (el : Int), q10, q11, q12, q13⟩ : RecP) A c (w.alloc (.cells #[.int .i64 (s : Int), .int .i64 0, .int .i64 (vi : Int), .int .i64 (vg : Int), .int .i64 (vn : Int), (.slice A l.length c), .string q6, .int .i64 q7, .int .i64 (eo : Int), .int .i64 (el : Int), .string q10, .string q11, .int .i64 q12, .int .i64 q13] 55)) (Kd.C_below HC.out HB.out) HL.out HCC.out
  rw [HZ.out] at hq0
  refine Calls.mono hq0 ?_
  clear hq0
  rintro e wa ⟨rfl, b1⟩
  replace HB := Aside0.mk (below2 HB.out HB.out.size b1)
  replace HR := Aside0.mk (HR.out.keep b1)
  clear b1
  go_wp2_with fail
  have HD := Aside0.mk (Bd.freshT bt_writer (wa.heap.size + 1) wa.heap.size (wa.alloc (.cells #[.pointer none, .slice none 0 0] 74)) (heap_alloc_new wa _))
  have HQ := Aside0.mk (show wa.heap.size + 1 ≤ (wa.alloc (.cells #[.pointer none, .slice none 0 0] 74)).heap.size by rw [World.size_alloc]; omega)
  have HGB := Lib.hid (show w.heap.size ≠ wa.heap.size by have := HR.out.lt; omega)
  have HBB := Lib.hid HB.out.size
  have HQB := Lib.hid (show w.heap.size ≤ wa.heap.size + 1 by have := HB.out.size; omega)
  replace HB := Aside0.mk (below_alloc HB.out (.cells #[.pointer none, .slice none 0 0] 74))
  replace HR := Aside0.mk (HR.out.alloc (.cells #[.pointer none, .slice none 0 0] 74))
  generalize (wa.alloc (.cells #[.pointer none, .slice none 0 0] 74)) = w1 at HD HQ HB HR ⊢
  generalize wa.heap.size = b at HD HQ HGB HBB HQB ⊢
  refine Calls.mono (bWriteStringK (b + 1) b [] [83, 74] _ HD.out (by decide) (by decide) HQ.out) ?_
  rintro e wn ⟨rfl, hD, hF, hK⟩
  replace HD := Aside0.mk hD
  replace HB := Aside0.mk (HB.out.trans (hF.below HQB.out HBB.out))
  replace HR := Aside0.mk (hK.blk HR.out (by decide) HGB.out)
  replace HQ := Aside0.mk (Nat.le_trans HQ.out hF.size)
  clear hD hF hK
  replace HD := Aside0.mk (show Bd (b + 1) b [83, 74] _ from HD.out)
  obtain ⟨d0, d1, d2, d3, d4, d5, d6, d7, d8, d9, d10, d11, d12, d13⟩ := cells14 HR.out
  go_wp2_with fail
  clear d0 d1 d2 d3 d4 d5 d6 d7 d8 d9 d10 d11 d12 d13
  have hg := Blk.new wn #[.int .i64 (s : Int), .int .i64 0] 3
  replace HD := Aside0.mk (HD.out.keep (below_alloc (Below.refl _ _) (.cells #[.int .i64 (s : Int), .int .i64 0] 3)))
  replace HB := Aside0.mk (below_alloc HB.out (.cells #[.int .i64 (s : Int), .int .i64 0] 3))
  replace HR := Aside0.mk (HR.out.alloc (.cells #[.int .i64 (s : Int), .int .i64 0] 3))
  have hgb : wn.heap.size ≠ b := by have := HQ.out; omega
  replace HQ := Aside0.mk (Nat.le_trans HQ.out (show wn.heap.size ≤ (wn.alloc (.cells #[.int .i64 (s : Int), .int .i64 0] 3)).heap.size by rw [World.size_alloc]; omega))
  refine Calls.mono (wnum_calls (b + 1) b [83, 74] wn.heap.size 2 [s, 0] 2 (by decide) (two_lt (by omega) (by decide)) _ HD.out (by decide) HQ.out hgb _ hg (two_cells _ _)) ?_
  clear hg hgb
  rintro e wn ⟨rfl, hD, hF, hK⟩
  replace HD := Aside0.mk hD
  replace HB := Aside0.mk (HB.out.trans (hF.below HQB.out HBB.out))
  replace HR := Aside0.mk (hK.blk HR.out (by decide) HGB.out)
  replace HQ := Aside0.mk (Nat.le_trans HQ.out hF.size)
  clear hD hF hK
  obtain ⟨a1, hE1⟩ : ∃ a, [83, 74] ++ encK [s, 0] 2 = a := ⟨_, rfl⟩
  replace HD := Aside0.mk (show Bd (b + 1) b a1 _ by rw [← hE1]; exact HD.out)
  have HA1 := Lib.hid (show a1.length ≤ 18 by rw [← hE1, List.length_append]; have := encK_len [s, 0] (two_lt (by omega) (by decide)) 2; simp; omega)
  have HE1 := Lib.hid hE1
  clear hE1
  obtain ⟨d0, d1, d2, d3, d4, d5, d6, d7, d8, d9, d10, d11, d12, d13⟩ := cells14 HR.out
  go_wp2_with fail
  clear d0 d1 d2 d3 d4 d5 d6 d7 d8 d9 d10 d11 d12 d13
  have hg := Blk.new wn #[.int .i64 (vi : Int), .int .i64 (vg : Int), .int .i64 (vn : Int)] 3
  replace HD := Aside0.mk (HD.out.keep (below_alloc (Below.refl _ _) (.cells #[.int .i64 (vi : Int), .int .i64 (vg : Int), .int .i64 (vn : Int)] 3)))
  replace HB := Aside0.mk (below_alloc HB.out (.cells #[.int .i64 (vi : Int), .int .i64 (vg : Int), .int .i64 (vn : Int)] 3))
  replace HR := Aside0.mk (HR.out.alloc (.cells #[.int .i64 (vi : Int), .int .i64 (vg : Int), .int .i64 (vn : Int)] 3))
  have hgb : wn.heap.size ≠ b := by have := HQ.out; omega
  replace HQ := Aside0.mk (Nat.le_trans HQ.out (show wn.heap.size ≤ (wn.alloc (.cells #[.int .i64 (vi : Int), .int .i64 (vg : Int), .int .i64 (vn : Int)] 3)).heap.size by rw [World.size_alloc]; omega))
  refine Calls.mono (wnum_calls (b + 1) b a1 wn.heap.size 3 [vi, vg, vn] 3 (by decide) (three_lt (by omega) (by omega) (by omega)) _ HD.out (Nat.le_trans HA1.out (by decide)) HQ.out hgb _ hg (three_cells _ _ _)) ?_
  clear hg hgb
  rintro e wn ⟨rfl, hD, hF, hK⟩
  replace HD := Aside0.mk hD
  replace HB := Aside0.mk (HB.out.trans (hF.below HQB.out HBB.out))
  replace HR := Aside0.mk (hK.blk HR.out (by decide) HGB.out)
  replace HQ := Aside0.mk (Nat.le_trans HQ.out hF.size)
  clear hD hF hK
  obtain ⟨a2, hE2⟩ : ∃ a, a1 ++ encK [vi, vg, vn] 3 = a := ⟨_, rfl⟩
  replace HD := Aside0.mk (show Bd (b + 1) b a2 _ by rw [← hE2]; exact HD.out)
  have HA2 := Lib.hid (show a2.length ≤ 42 by rw [← hE2, List.length_append]; have := encK_len [vi, vg, vn] (three_lt (by omega) (by omega) (by omega)) 3; have := HA1.out; omega)
  have HE2 := Lib.hid hE2
  clear hE2
  obtain ⟨d0, d1, d2, d3, d4, d5, d6, d7, d8, d9, d10, d11, d12, d13⟩ := cells14 HR.out
  go_wp2_with fail
  clear d0 d1 d2 d3 d4 d5 d6 d7 d8 d9 d10 d11 d12 d13
  replace HD := Aside0.mk (show Bd (b + 1) b (a2 ++ locsT l 0) _ by rw [locsT, List.append_nil]; exact HD.out)
  go_loopw [47] (fun i wr => ∃ k : Nat, k ≤ l.length ∧ i = .int .i64 k ∧ Aside0 (Bd (b + 1) b (a2 ++ locsT l k) wr) ∧ Aside0 (Below w.heap.size w wr) ∧ Aside0 (Blk wr w.heap.size #[.int .i64 (s : Int), .int .i64 0, .int .i64 (vi : Int), .int .i64 (vg : Int), .int .i64 (vn : Int), (.slice A l.length c), .string q6, .int .i64 q7, .int .i64 (eo : Int), .int .i64 (el : Int), .string q10, .string q11, .int .i64 q12, .int .i64 q13] 55) ∧ Aside0 (b + 1 ≤ wr.heap.size)) (fun i _ => l.length - (intOf i).toNat)
  case atStart => exact ⟨0, Nat.zero_le _, rfl, HD, HB, HR, HQ⟩
  case round =>
    clear HD HB HR HQ
    obtain ⟨k, hk, rfl, HD, HB, HR, HQ⟩ := hrel
    by_cases hlt : k < l.length
    · obtain ⟨ad, hA, k0, k1⟩ := at_T83 HC.out k (by omega) (by omega)
      rw [Int.toNat_natCast] at k0 k1
      have e0 := (HB.out.cell (lt_cell k0)).trans k0
      have e1 := (HB.out.cell (lt_cell k1)).trans k1
      clear k0 k1
      subst hA
      have hk9 : k < 9 := by have := HV.out.nine; omega
      have hv9 := HV.out.locs k hk9
      have hz0 := Int.toNat_of_nonneg hv9.1.1
      have hz1 := Int.toNat_of_nonneg hv9.2.1
      have hb0 : (rd_T83 l k).f0.toNat ≤ 11 := by omega
      have hb1 : (rd_T83 l k).f1.toNat ≤ 47 := by omega
      have HLT := Lib.hid (show locsT l (k + 1) = locsT l k ++ encK [(rd_T83 l k).f0.toNat, (rd_T83 l k).f1.toNat] 2 from rfl)
      have HLL := Lib.hid (locsT_len HV.out k (by omega))
      rw [← hz0] at e0
      rw [← hz1] at e1
      generalize (rd_T83 l k).f0.toNat = x0 at *
      generalize (rd_T83 l k).f1.toNat = x1 at *
      clear hv9 hz0 hz1
      go_wp2_with fail
      clear e0 e1
      have hg := blk2 wr (.cells #[.int .i64 (x0 : Int), .int .i64 (x1 : Int)] 83) #[.int .i64 (x0 : Int), .int .i64 (x1 : Int)] 3
      have hbw := below_alloc2 wr (.cells #[.int .i64 (x0 : Int), .int .i64 (x1 : Int)] 83) (.cells #[.int .i64 (x0 : Int), .int .i64 (x1 : Int)] 3)
      replace HD := Aside0.mk (HD.out.keep hbw)
      replace HB := Aside0.mk (below2 HB.out HB.out.size hbw)
      replace HR := Aside0.mk (HR.out.keep hbw)
      have hgb : wr.heap.size + 1 ≠ b := by have := HQ.out; omega
      replace HQ := Aside0.mk (Nat.le_trans HQ.out hbw.size)
      clear hbw
      refine Calls.mono (wnum_calls (b + 1) b (a2 ++ locsT l k) (wr.heap.size + 1) 2 [x0, x1] 2 (by decide) (two_lt (by omega) (by omega)) _ HD.out (by have := HLL.out; have := HA2.out; rw [List.length_append]; omega) HQ.out hgb _ hg (two_cells _ _)) ?_
      clear hg hgb
      rintro e wn ⟨rfl, hD, hF, hK⟩
      replace HD := Aside0.mk hD
      replace HB := Aside0.mk (HB.out.trans (hF.below HQB.out HBB.out))
      replace HR := Aside0.mk (hK.blk HR.out (by decide) HGB.out)
      replace HQ := Aside0.mk (Nat.le_trans HQ.out hF.size)
      clear hD hF hK
      replace HD := Aside0.mk (show Bd (b + 1) b (a2 ++ locsT l (k + 1)) _ by rw [HLT.out, ← List.append_assoc]; exact HD.out)
      go_wp2_with fail
      go_roundw
      case rel => exact ⟨k + 1, by omega, by go_num, HD, HB, HR, HQ⟩
      case measure => simp [intOf]; omega
    · obtain rfl : k = l.length := by omega
      obtain ⟨wn, rfl⟩ : ∃ x, x = wr := ⟨wr, rfl⟩
      have hlast := locsT_len HV.out l.length (by have := HV.out.nine; omega)
      have hnine := HV.out.nine
      obtain ⟨a3, hE3⟩ : ∃ a, a2 ++ locsT l l.length = a := ⟨_, rfl⟩
      replace HD := Aside0.mk (show Bd (b + 1) b a3 _ by rw [← hE3]; exact HD.out)
      have HA3 := Lib.hid (show a3.length ≤ 186 by rw [← hE3, List.length_append]; have := HA2.out; omega)
      have HE3 := Lib.hid hE3
      clear hE3
      clear hlast hnine hlt hk
      obtain ⟨d0, d1, d2, d3, d4, d5, d6, d7, d8, d9, d10, d11, d12, d13⟩ := cells14 HR.out
      go_wp2_with fail
      clear d0 d1 d2 d3 d4 d5 d6 d7 d8 d9 d10 d11 d12 d13
      have ht := text_L q6.data.toList wn (by have := HK.out; omega)
      rw [B_eta] at ht
      refine Calls.mono ht ?_
      clear ht
      rintro e wn ⟨rfl, b1⟩
      replace HD := Aside0.mk (HD.out.keep b1)
      replace HB := Aside0.mk (below2 HB.out HB.out.size b1)
      replace HR := Aside0.mk (HR.out.keep b1)
      replace HQ := Aside0.mk (Nat.le_trans HQ.out b1.size)
      clear b1
      go_wp2_with fail
      have hn0 : txt q6.data.toList ≠ [] := by intro e; have := congrArg List.length e; unfold txt at this; rw [List.length_append] at this; have h1 := enc_ne q6.data.toList.length; cases hz : enc q6.data.toList.length with
        | nil => exact h1 hz
        | cons a r => rw [hz] at this; simp at this
      have hl40 : (txt q6.data.toList).length ≤ 40 := by have := txt_le q6.data.toList (by have := HK.out; omega); have := HK.out; omega
      refine Calls.mono (bWriteStringK (b + 1) b a3 (txt q6.data.toList) _ HD.out hn0 (by have := HA3.out; omega) HQ.out) ?_
      rintro e wn ⟨rfl, hD, hF, hK⟩
      replace HD := Aside0.mk hD
      replace HB := Aside0.mk (HB.out.trans (hF.below HQB.out HBB.out))
      replace HR := Aside0.mk (hK.blk HR.out (by decide) HGB.out)
      replace HQ := Aside0.mk (Nat.le_trans HQ.out hF.size)
      clear hD hF hK
      obtain ⟨a4, hE4⟩ : ∃ a, a3 ++ txt q6.data.toList = a := ⟨_, rfl⟩
      replace HD := Aside0.mk (show Bd (b + 1) b a4 _ by rw [← hE4]; exact HD.out)
      have HA4 := Lib.hid (show a4.length ≤ 226 by rw [← hE4, List.length_append]; have := HA3.out; omega)
      have HE4 := Lib.hid hE4
      clear hE4
      clear hn0 hl40
      obtain ⟨d0, d1, d2, d3, d4, d5, d6, d7, d8, d9, d10, d11, d12, d13⟩ := cells14 HR.out
      go_wp2_with fail
      clear d0 d1 d2 d3 d4 d5 d6 d7 d8 d9 d10 d11 d12 d13
      have hg := Blk.new wn #[.int .i64 (eo : Int), .int .i64 (el : Int)] 3
      replace HD := Aside0.mk (HD.out.keep (below_alloc (Below.refl _ _) (.cells #[.int .i64 (eo : Int), .int .i64 (el : Int)] 3)))
      replace HB := Aside0.mk (below_alloc HB.out (.cells #[.int .i64 (eo : Int), .int .i64 (el : Int)] 3))
      replace HR := Aside0.mk (HR.out.alloc (.cells #[.int .i64 (eo : Int), .int .i64 (el : Int)] 3))
      have hgb : wn.heap.size ≠ b := by have := HQ.out; omega
      replace HQ := Aside0.mk (Nat.le_trans HQ.out (show wn.heap.size ≤ (wn.alloc (.cells #[.int .i64 (eo : Int), .int .i64 (el : Int)] 3)).heap.size by rw [World.size_alloc]; omega))
      refine Calls.mono (wnum_calls (b + 1) b a4 wn.heap.size 2 [eo, el] 2 (by decide) (two_lt (by have := HO.out; omega) (by have := HE.out; omega)) _ HD.out (Nat.le_trans HA4.out (by decide)) HQ.out hgb _ hg (two_cells _ _)) ?_
      clear hg hgb
      rintro e wn ⟨rfl, hD, hF, hK⟩
      replace HD := Aside0.mk hD
      replace HB := Aside0.mk (HB.out.trans (hF.below HQB.out HBB.out))
      replace HR := Aside0.mk (hK.blk HR.out (by decide) HGB.out)
      replace HQ := Aside0.mk (Nat.le_trans HQ.out hF.size)
      clear hD hF hK
      obtain ⟨a5, hE5⟩ : ∃ a, a4 ++ encK [eo, el] 2 = a := ⟨_, rfl⟩
      replace HD := Aside0.mk (show Bd (b + 1) b a5 _ by rw [← hE5]; exact HD.out)
      have HA5 := Lib.hid (show a5.length ≤ 242 by rw [← hE5, List.length_append]; have := encK_len [eo, el] (two_lt (by have := HO.out; omega) (by have := HE.out; omega)) 2; have := HA4.out; omega)
      have HE5 := Lib.hid hE5
      clear hE5
      obtain ⟨d0, d1, d2, d3, d4, d5, d6, d7, d8, d9, d10, d11, d12, d13⟩ := cells14 HR.out
      go_wp2_with fail
      clear d0 d1 d2 d3 d4 d5 d6 d7 d8 d9 d10 d11 d12 d13
      have hdl := HDG.out
      rw [← size_data] at hdl
      have hws := bWriteStringK (b + 1) b a5 q10.data.toList wn HD.out (by intro e; rw [e] at hdl; simp at hdl) (by have := HA5.out; omega) HQ.out
      rw [show (⟨q10.data.toList.toArray⟩ : ByteArray) = q10 from B_eta q10] at hws
      refine Calls.mono hws ?_
      clear hws
      rintro e wn ⟨rfl, hD, hF, hK⟩
      replace HD := Aside0.mk hD
      replace HB := Aside0.mk (HB.out.trans (hF.below HQB.out HBB.out))
      replace HR := Aside0.mk (hK.blk HR.out (by decide) HGB.out)
      replace HQ := Aside0.mk (Nat.le_trans HQ.out hF.size)
      clear hD hF hK
      obtain ⟨a6, hE6⟩ : ∃ a, a5 ++ q10.data.toList = a := ⟨_, rfl⟩
      replace HD := Aside0.mk (show Bd (b + 1) b a6 _ by rw [← hE6]; exact HD.out)
      have HA6 := Lib.hid (show a6.length ≤ 274 by rw [← hE6, List.length_append]; have := HA5.out; omega)
      have HE6 := Lib.hid hE6
      clear hE6
      clear hdl
      obtain ⟨d0, d1, d2, d3, d4, d5, d6, d7, d8, d9, d10, d11, d12, d13⟩ := cells14 HR.out
      go_wp2_with fail
      clear d0 d1 d2 d3 d4 d5 d6 d7 d8 d9 d10 d11 d12 d13
      refine Calls.mono (bString (b + 1) b a6 wn HD.out) ?_
      rintro e wm ⟨rfl, hF⟩
      replace HB := Aside0.mk (HB.out.trans (hF.below HQB.out HBB.out))
      clear hF
      go_wp2_with fail
      refine Calls.mono (bd_seal a6 wm (Nat.le_trans HA6.out (by decide))) ?_
      rintro e wz ⟨rfl, b1⟩
      replace HB := Aside0.mk (below2 HB.out HB.out.size b1)
      clear b1
      go_wp2_with fail
      go_ret2
      refine ⟨?_, HB.out⟩
      rw [← HRES.out, ← HE6.out, ← HE5.out, ← HE4.out, ← HE3.out, ← HE2.out, ← HE1.out]
      rfl
set_option maxRecDepth 100000 in
set_option maxHeartbeats 4000000 in
theorem rw_1 (s : Nat) (q2 q3 q4 : Int) (A : Option Addr) (c : Nat) (l : List S83) (q6 : ByteArray) (q7 q8 q9 : Int) (q10 q11 : ByteArray) (q12 q13 : Int) (w : World) (hr : Kd.C k83 w A l.length l) (hl : l.length ≤ 1000) (hc : l.length ≤ c) (hz : chkR (⟨(s : Int), 1, q2, q3, q4, l, q6, q7, q8, q9, q10, q11, q12, q13⟩ : RecP) = 0) (hs : s ≤ 63) (hk : q11.data.toList.length ≤ 32) : Calls Try.prog 24 #[.agg #[.int .i64 (s : Int), .int .i64 1, .int .i64 q2, .int .i64 q3, .int .i64 q4, (.slice A l.length c), .string q6, .int .i64 q7, .int .i64 q8, .int .i64 q9, .string q10, .string q11, .int .i64 q12, .int .i64 q13]] w fun e w' => e = .returned (.tuple #[.string (B (sealL (recT (⟨(s : Int), 1, q2, q3, q4, l, q6, q7, q8, q9, q10, q11, q12, q13⟩ : RecP)))), .int .i64 0]) ∧ Below w.heap.size w w' := by
  have hu0 := Try.underlying33
  have hu1 := Try.underlying55
  have hu2 := Try.underlying29
  have hu3 := Try.underlying31
  have hu4 := Try.underlying83
  have HRES : ∃ res, B (sealL (recT (⟨(s : Int), 1, q2, q3, q4, l, q6, q7, q8, q9, q10, q11, q12, q13⟩ : RecP))) = res := ⟨_, rfl⟩
  obtain ⟨res, hres⟩ := HRES
  rw [hres]
  have HRES := Lib.hid hres
  clear hres
  have HZ := Lib.hid hz
  have HC := Lib.hid hr
  have HL := Lib.hid hl
  have HCC := Lib.hid hc
  have HK := Lib.hid hk
  clear hk
  clear hz hr hl hc
  have HB : Aside0 (Below w.heap.size w (w.alloc (.cells #[.int .i64 (s : Int), .int .i64 1, .int .i64 q2, .int .i64 q3, .int .i64 q4, (.slice A l.length c), .string q6, .int .i64 q7, .int .i64 q8, .int .i64 q9, .string q10, .string q11, .int .i64 q12, .int .i64 q13] 55))) := ⟨below_alloc (Below.refl _ _) _⟩
  have HR : Aside0 (Blk (w.alloc (.cells #[.int .i64 (s : Int), .int .i64 1, .int .i64 q2, .int .i64 q3, .int .i64 q4, (.slice A l.length c), .string q6, .int .i64 q7, .int .i64 q8, .int .i64 q9, .string q10, .string q11, .int .i64 q12, .int .i64 q13] 55)) w.heap.size #[.int .i64 (s : Int), .int .i64 1, .int .i64 q2, .int .i64 q3, .int .i64 q4, (.slice A l.length c), .string q6, .int .i64 q7, .int .i64 q8, .int .i64 q9, .string q10, .string q11, .int .i64 q12, .int .i64 q13] 55) := ⟨Blk.new w _ _⟩
  obtain ⟨d0, d1, d2, d3, d4, d5, d6, d7, d8, d9, d10, d11, d12, d13⟩ := cells14 HR.out
  go_enter Try.func24, Try.ntmps24
  go_wp2_with fail
  clear d0 d1 d2 d3 d4 d5 d6 d7 d8 d9 d10 d11 d12 d13
  have hq0 := rchk_calls (⟨(s : Int), 1, q2, q3, q4, l, q6, q7, q8, q9, q10, q11, q12, q13⟩ : RecP) A c (w.alloc (.cells #[.int .i64 (s : Int), .int .i64 1, .int .i64 q2, .int .i64 q3, .int .i64 q4, (.slice A l.length c), .string q6, .int .i64 q7, .int .i64 q8, .int .i64 q9, .string q10, .string q11, .int .i64 q12, .int .i64 q13] 55)) (Kd.C_below HC.out HB.out) HL.out HCC.out
  rw [HZ.out] at hq0
  refine Calls.mono hq0 ?_
  clear hq0
  rintro e wa ⟨rfl, b1⟩
  replace HB := Aside0.mk (below2 HB.out HB.out.size b1)
  replace HR := Aside0.mk (HR.out.keep b1)
  clear b1
  go_wp2_with fail
  have HD := Aside0.mk (Bd.freshT bt_writer (wa.heap.size + 1) wa.heap.size (wa.alloc (.cells #[.pointer none, .slice none 0 0] 74)) (heap_alloc_new wa _))
  have HQ := Aside0.mk (show wa.heap.size + 1 ≤ (wa.alloc (.cells #[.pointer none, .slice none 0 0] 74)).heap.size by rw [World.size_alloc]; omega)
  have HGB := Lib.hid (show w.heap.size ≠ wa.heap.size by have := HR.out.lt; omega)
  have HBB := Lib.hid HB.out.size
  have HQB := Lib.hid (show w.heap.size ≤ wa.heap.size + 1 by have := HB.out.size; omega)
  replace HB := Aside0.mk (below_alloc HB.out (.cells #[.pointer none, .slice none 0 0] 74))
  replace HR := Aside0.mk (HR.out.alloc (.cells #[.pointer none, .slice none 0 0] 74))
  generalize (wa.alloc (.cells #[.pointer none, .slice none 0 0] 74)) = w1 at HD HQ HB HR ⊢
  generalize wa.heap.size = b at HD HQ HGB HBB HQB ⊢
  refine Calls.mono (bWriteStringK (b + 1) b [] [83, 74] _ HD.out (by decide) (by decide) HQ.out) ?_
  rintro e wn ⟨rfl, hD, hF, hK⟩
  replace HD := Aside0.mk hD
  replace HB := Aside0.mk (HB.out.trans (hF.below HQB.out HBB.out))
  replace HR := Aside0.mk (hK.blk HR.out (by decide) HGB.out)
  replace HQ := Aside0.mk (Nat.le_trans HQ.out hF.size)
  clear hD hF hK
  replace HD := Aside0.mk (show Bd (b + 1) b [83, 74] _ from HD.out)
  obtain ⟨d0, d1, d2, d3, d4, d5, d6, d7, d8, d9, d10, d11, d12, d13⟩ := cells14 HR.out
  go_wp2_with fail
  clear d0 d1 d2 d3 d4 d5 d6 d7 d8 d9 d10 d11 d12 d13
  have hg := Blk.new wn #[.int .i64 (s : Int), .int .i64 1] 3
  replace HD := Aside0.mk (HD.out.keep (below_alloc (Below.refl _ _) (.cells #[.int .i64 (s : Int), .int .i64 1] 3)))
  replace HB := Aside0.mk (below_alloc HB.out (.cells #[.int .i64 (s : Int), .int .i64 1] 3))
  replace HR := Aside0.mk (HR.out.alloc (.cells #[.int .i64 (s : Int), .int .i64 1] 3))
  have hgb : wn.heap.size ≠ b := by have := HQ.out; omega
  replace HQ := Aside0.mk (Nat.le_trans HQ.out (show wn.heap.size ≤ (wn.alloc (.cells #[.int .i64 (s : Int), .int .i64 1] 3)).heap.size by rw [World.size_alloc]; omega))
  refine Calls.mono (wnum_calls (b + 1) b [83, 74] wn.heap.size 2 [s, 1] 2 (by decide) (two_lt (by omega) (by decide)) _ HD.out (by decide) HQ.out hgb _ hg (two_cells _ _)) ?_
  clear hg hgb
  rintro e wn ⟨rfl, hD, hF, hK⟩
  replace HD := Aside0.mk hD
  replace HB := Aside0.mk (HB.out.trans (hF.below HQB.out HBB.out))
  replace HR := Aside0.mk (hK.blk HR.out (by decide) HGB.out)
  replace HQ := Aside0.mk (Nat.le_trans HQ.out hF.size)
  clear hD hF hK
  obtain ⟨a1, hE1⟩ : ∃ a, [83, 74] ++ encK [s, 1] 2 = a := ⟨_, rfl⟩
  replace HD := Aside0.mk (show Bd (b + 1) b a1 _ by rw [← hE1]; exact HD.out)
  have HA1 := Lib.hid (show a1.length ≤ 18 by rw [← hE1, List.length_append]; have := encK_len [s, 1] (two_lt (by omega) (by decide)) 2; simp; omega)
  have HE1 := Lib.hid hE1
  clear hE1
  obtain ⟨d0, d1, d2, d3, d4, d5, d6, d7, d8, d9, d10, d11, d12, d13⟩ := cells14 HR.out
  go_wp2_with fail
  clear d0 d1 d2 d3 d4 d5 d6 d7 d8 d9 d10 d11 d12 d13
  have ht := text_L q11.data.toList wn (by have := HK.out; omega)
  rw [B_eta] at ht
  refine Calls.mono ht ?_
  clear ht
  rintro e wn ⟨rfl, b1⟩
  replace HD := Aside0.mk (HD.out.keep b1)
  replace HB := Aside0.mk (below2 HB.out HB.out.size b1)
  replace HR := Aside0.mk (HR.out.keep b1)
  replace HQ := Aside0.mk (Nat.le_trans HQ.out b1.size)
  clear b1
  go_wp2_with fail
  have hn0 : txt q11.data.toList ≠ [] := by intro e; have := congrArg List.length e; unfold txt at this; rw [List.length_append] at this; have h1 := enc_ne q11.data.toList.length; cases hz : enc q11.data.toList.length with
    | nil => exact h1 hz
    | cons a r => rw [hz] at this; simp at this
  have hl40 : (txt q11.data.toList).length ≤ 40 := by have := txt_le q11.data.toList (by have := HK.out; omega); have := HK.out; omega
  refine Calls.mono (bWriteStringK (b + 1) b a1 (txt q11.data.toList) _ HD.out hn0 (by have := HA1.out; omega) HQ.out) ?_
  rintro e wn ⟨rfl, hD, hF, hK⟩
  replace HD := Aside0.mk hD
  replace HB := Aside0.mk (HB.out.trans (hF.below HQB.out HBB.out))
  replace HR := Aside0.mk (hK.blk HR.out (by decide) HGB.out)
  replace HQ := Aside0.mk (Nat.le_trans HQ.out hF.size)
  clear hD hF hK
  obtain ⟨a2, hE2⟩ : ∃ a, a1 ++ txt q11.data.toList = a := ⟨_, rfl⟩
  replace HD := Aside0.mk (show Bd (b + 1) b a2 _ by rw [← hE2]; exact HD.out)
  have HA2 := Lib.hid (show a2.length ≤ 58 by rw [← hE2, List.length_append]; have := HA1.out; omega)
  have HE2 := Lib.hid hE2
  clear hE2
  clear hn0 hl40
  obtain ⟨d0, d1, d2, d3, d4, d5, d6, d7, d8, d9, d10, d11, d12, d13⟩ := cells14 HR.out
  go_wp2_with fail
  clear d0 d1 d2 d3 d4 d5 d6 d7 d8 d9 d10 d11 d12 d13
  refine Calls.mono (bString (b + 1) b a2 wn HD.out) ?_
  rintro e wm ⟨rfl, hF⟩
  replace HB := Aside0.mk (HB.out.trans (hF.below HQB.out HBB.out))
  clear hF
  go_wp2_with fail
  refine Calls.mono (bd_seal a2 wm (Nat.le_trans HA2.out (by decide))) ?_
  rintro e wz ⟨rfl, b1⟩
  replace HB := Aside0.mk (below2 HB.out HB.out.size b1)
  clear b1
  go_wp2_with fail
  go_ret2
  refine ⟨?_, HB.out⟩
  rw [← HRES.out, ← HE2.out, ← HE1.out]
  rfl
set_option maxRecDepth 100000 in
set_option maxHeartbeats 4000000 in
theorem rw_2 (s vi vg vn : Nat) (A : Option Addr) (c : Nat) (l : List S83) (q6 : ByteArray) (q7 q8 q9 : Int) (q10 q11 : ByteArray) (q12 q13 : Int) (w : World) (hr : Kd.C k83 w A l.length l) (hl : l.length ≤ 1000) (hc : l.length ≤ c) (hz : chkR (⟨(s : Int), 2, (vi : Int), (vg : Int), (vn : Int), l, q6, q7, q8, q9, q10, q11, q12, q13⟩ : RecP) = 0) (hs : s ≤ 63) (hv : VolOk vi vg vn l) : Calls Try.prog 24 #[.agg #[.int .i64 (s : Int), .int .i64 2, .int .i64 (vi : Int), .int .i64 (vg : Int), .int .i64 (vn : Int), (.slice A l.length c), .string q6, .int .i64 q7, .int .i64 q8, .int .i64 q9, .string q10, .string q11, .int .i64 q12, .int .i64 q13]] w fun e w' => e = .returned (.tuple #[.string (B (sealL (recT (⟨(s : Int), 2, (vi : Int), (vg : Int), (vn : Int), l, q6, q7, q8, q9, q10, q11, q12, q13⟩ : RecP)))), .int .i64 0]) ∧ Below w.heap.size w w' := by
  have hu0 := Try.underlying33
  have hu1 := Try.underlying55
  have hu2 := Try.underlying29
  have hu3 := Try.underlying31
  have hu4 := Try.underlying83
  have HRES : ∃ res, B (sealL (recT (⟨(s : Int), 2, (vi : Int), (vg : Int), (vn : Int), l, q6, q7, q8, q9, q10, q11, q12, q13⟩ : RecP))) = res := ⟨_, rfl⟩
  obtain ⟨res, hres⟩ := HRES
  rw [hres]
  have HRES := Lib.hid hres
  clear hres
  have HZ := Lib.hid hz
  have HC := Lib.hid hr
  have HL := Lib.hid hl
  have HCC := Lib.hid hc
  have HV := Lib.hid hv
  have hvi := hv.i.2
  have hvg := hv.g.2
  have hvn := hv.n.2
  clear hv
  clear hz hr hl hc
  have HB : Aside0 (Below w.heap.size w (w.alloc (.cells #[.int .i64 (s : Int), .int .i64 2, .int .i64 (vi : Int), .int .i64 (vg : Int), .int .i64 (vn : Int), (.slice A l.length c), .string q6, .int .i64 q7, .int .i64 q8, .int .i64 q9, .string q10, .string q11, .int .i64 q12, .int .i64 q13] 55))) := ⟨below_alloc (Below.refl _ _) _⟩
  have HR : Aside0 (Blk (w.alloc (.cells #[.int .i64 (s : Int), .int .i64 2, .int .i64 (vi : Int), .int .i64 (vg : Int), .int .i64 (vn : Int), (.slice A l.length c), .string q6, .int .i64 q7, .int .i64 q8, .int .i64 q9, .string q10, .string q11, .int .i64 q12, .int .i64 q13] 55)) w.heap.size #[.int .i64 (s : Int), .int .i64 2, .int .i64 (vi : Int), .int .i64 (vg : Int), .int .i64 (vn : Int), (.slice A l.length c), .string q6, .int .i64 q7, .int .i64 q8, .int .i64 q9, .string q10, .string q11, .int .i64 q12, .int .i64 q13] 55) := ⟨Blk.new w _ _⟩
  obtain ⟨d0, d1, d2, d3, d4, d5, d6, d7, d8, d9, d10, d11, d12, d13⟩ := cells14 HR.out
  go_enter Try.func24, Try.ntmps24
  go_wp2_with fail
  clear d0 d1 d2 d3 d4 d5 d6 d7 d8 d9 d10 d11 d12 d13
  have hq0 := rchk_calls (⟨(s : Int), 2, (vi : Int), (vg : Int), (vn : Int), l, q6, q7, q8, q9, q10, q11, q12, q13⟩ : RecP) A c (w.alloc (.cells #[.int .i64 (s : Int), .int .i64 2, .int .i64 (vi : Int), .int .i64 (vg : Int), .int .i64 (vn : Int), (.slice A l.length c), .string q6, .int .i64 q7, .int .i64 q8, .int .i64 q9, .string q10, .string q11, .int .i64 q12, .int .i64 q13] 55)) (Kd.C_below HC.out HB.out) HL.out HCC.out
  rw [HZ.out] at hq0
  refine Calls.mono hq0 ?_
  clear hq0
  rintro e wa ⟨rfl, b1⟩
  replace HB := Aside0.mk (below2 HB.out HB.out.size b1)
  replace HR := Aside0.mk (HR.out.keep b1)
  clear b1
  go_wp2_with fail
  have HD := Aside0.mk (Bd.freshT bt_writer (wa.heap.size + 1) wa.heap.size (wa.alloc (.cells #[.pointer none, .slice none 0 0] 74)) (heap_alloc_new wa _))
  have HQ := Aside0.mk (show wa.heap.size + 1 ≤ (wa.alloc (.cells #[.pointer none, .slice none 0 0] 74)).heap.size by rw [World.size_alloc]; omega)
  have HGB := Lib.hid (show w.heap.size ≠ wa.heap.size by have := HR.out.lt; omega)
  have HBB := Lib.hid HB.out.size
  have HQB := Lib.hid (show w.heap.size ≤ wa.heap.size + 1 by have := HB.out.size; omega)
  replace HB := Aside0.mk (below_alloc HB.out (.cells #[.pointer none, .slice none 0 0] 74))
  replace HR := Aside0.mk (HR.out.alloc (.cells #[.pointer none, .slice none 0 0] 74))
  generalize (wa.alloc (.cells #[.pointer none, .slice none 0 0] 74)) = w1 at HD HQ HB HR ⊢
  generalize wa.heap.size = b at HD HQ HGB HBB HQB ⊢
  refine Calls.mono (bWriteStringK (b + 1) b [] [83, 74] _ HD.out (by decide) (by decide) HQ.out) ?_
  rintro e wn ⟨rfl, hD, hF, hK⟩
  replace HD := Aside0.mk hD
  replace HB := Aside0.mk (HB.out.trans (hF.below HQB.out HBB.out))
  replace HR := Aside0.mk (hK.blk HR.out (by decide) HGB.out)
  replace HQ := Aside0.mk (Nat.le_trans HQ.out hF.size)
  clear hD hF hK
  replace HD := Aside0.mk (show Bd (b + 1) b [83, 74] _ from HD.out)
  obtain ⟨d0, d1, d2, d3, d4, d5, d6, d7, d8, d9, d10, d11, d12, d13⟩ := cells14 HR.out
  go_wp2_with fail
  clear d0 d1 d2 d3 d4 d5 d6 d7 d8 d9 d10 d11 d12 d13
  have hg := Blk.new wn #[.int .i64 (s : Int), .int .i64 2] 3
  replace HD := Aside0.mk (HD.out.keep (below_alloc (Below.refl _ _) (.cells #[.int .i64 (s : Int), .int .i64 2] 3)))
  replace HB := Aside0.mk (below_alloc HB.out (.cells #[.int .i64 (s : Int), .int .i64 2] 3))
  replace HR := Aside0.mk (HR.out.alloc (.cells #[.int .i64 (s : Int), .int .i64 2] 3))
  have hgb : wn.heap.size ≠ b := by have := HQ.out; omega
  replace HQ := Aside0.mk (Nat.le_trans HQ.out (show wn.heap.size ≤ (wn.alloc (.cells #[.int .i64 (s : Int), .int .i64 2] 3)).heap.size by rw [World.size_alloc]; omega))
  refine Calls.mono (wnum_calls (b + 1) b [83, 74] wn.heap.size 2 [s, 2] 2 (by decide) (two_lt (by omega) (by decide)) _ HD.out (by decide) HQ.out hgb _ hg (two_cells _ _)) ?_
  clear hg hgb
  rintro e wn ⟨rfl, hD, hF, hK⟩
  replace HD := Aside0.mk hD
  replace HB := Aside0.mk (HB.out.trans (hF.below HQB.out HBB.out))
  replace HR := Aside0.mk (hK.blk HR.out (by decide) HGB.out)
  replace HQ := Aside0.mk (Nat.le_trans HQ.out hF.size)
  clear hD hF hK
  obtain ⟨a1, hE1⟩ : ∃ a, [83, 74] ++ encK [s, 2] 2 = a := ⟨_, rfl⟩
  replace HD := Aside0.mk (show Bd (b + 1) b a1 _ by rw [← hE1]; exact HD.out)
  have HA1 := Lib.hid (show a1.length ≤ 18 by rw [← hE1, List.length_append]; have := encK_len [s, 2] (two_lt (by omega) (by decide)) 2; simp; omega)
  have HE1 := Lib.hid hE1
  clear hE1
  obtain ⟨d0, d1, d2, d3, d4, d5, d6, d7, d8, d9, d10, d11, d12, d13⟩ := cells14 HR.out
  go_wp2_with fail
  clear d0 d1 d2 d3 d4 d5 d6 d7 d8 d9 d10 d11 d12 d13
  have hg := Blk.new wn #[.int .i64 (vi : Int), .int .i64 (vg : Int), .int .i64 (vn : Int)] 3
  replace HD := Aside0.mk (HD.out.keep (below_alloc (Below.refl _ _) (.cells #[.int .i64 (vi : Int), .int .i64 (vg : Int), .int .i64 (vn : Int)] 3)))
  replace HB := Aside0.mk (below_alloc HB.out (.cells #[.int .i64 (vi : Int), .int .i64 (vg : Int), .int .i64 (vn : Int)] 3))
  replace HR := Aside0.mk (HR.out.alloc (.cells #[.int .i64 (vi : Int), .int .i64 (vg : Int), .int .i64 (vn : Int)] 3))
  have hgb : wn.heap.size ≠ b := by have := HQ.out; omega
  replace HQ := Aside0.mk (Nat.le_trans HQ.out (show wn.heap.size ≤ (wn.alloc (.cells #[.int .i64 (vi : Int), .int .i64 (vg : Int), .int .i64 (vn : Int)] 3)).heap.size by rw [World.size_alloc]; omega))
  refine Calls.mono (wnum_calls (b + 1) b a1 wn.heap.size 3 [vi, vg, vn] 3 (by decide) (three_lt (by omega) (by omega) (by omega)) _ HD.out (Nat.le_trans HA1.out (by decide)) HQ.out hgb _ hg (three_cells _ _ _)) ?_
  clear hg hgb
  rintro e wn ⟨rfl, hD, hF, hK⟩
  replace HD := Aside0.mk hD
  replace HB := Aside0.mk (HB.out.trans (hF.below HQB.out HBB.out))
  replace HR := Aside0.mk (hK.blk HR.out (by decide) HGB.out)
  replace HQ := Aside0.mk (Nat.le_trans HQ.out hF.size)
  clear hD hF hK
  obtain ⟨a2, hE2⟩ : ∃ a, a1 ++ encK [vi, vg, vn] 3 = a := ⟨_, rfl⟩
  replace HD := Aside0.mk (show Bd (b + 1) b a2 _ by rw [← hE2]; exact HD.out)
  have HA2 := Lib.hid (show a2.length ≤ 42 by rw [← hE2, List.length_append]; have := encK_len [vi, vg, vn] (three_lt (by omega) (by omega) (by omega)) 3; have := HA1.out; omega)
  have HE2 := Lib.hid hE2
  clear hE2
  obtain ⟨d0, d1, d2, d3, d4, d5, d6, d7, d8, d9, d10, d11, d12, d13⟩ := cells14 HR.out
  go_wp2_with fail
  clear d0 d1 d2 d3 d4 d5 d6 d7 d8 d9 d10 d11 d12 d13
  replace HD := Aside0.mk (show Bd (b + 1) b (a2 ++ locsT l 0) _ by rw [locsT, List.append_nil]; exact HD.out)
  go_loopw [47] (fun i wr => ∃ k : Nat, k ≤ l.length ∧ i = .int .i64 k ∧ Aside0 (Bd (b + 1) b (a2 ++ locsT l k) wr) ∧ Aside0 (Below w.heap.size w wr) ∧ Aside0 (Blk wr w.heap.size #[.int .i64 (s : Int), .int .i64 2, .int .i64 (vi : Int), .int .i64 (vg : Int), .int .i64 (vn : Int), (.slice A l.length c), .string q6, .int .i64 q7, .int .i64 q8, .int .i64 q9, .string q10, .string q11, .int .i64 q12, .int .i64 q13] 55) ∧ Aside0 (b + 1 ≤ wr.heap.size)) (fun i _ => l.length - (intOf i).toNat)
  case atStart => exact ⟨0, Nat.zero_le _, rfl, HD, HB, HR, HQ⟩
  case round =>
    clear HD HB HR HQ
    obtain ⟨k, hk, rfl, HD, HB, HR, HQ⟩ := hrel
    by_cases hlt : k < l.length
    · obtain ⟨ad, hA, k0, k1⟩ := at_T83 HC.out k (by omega) (by omega)
      rw [Int.toNat_natCast] at k0 k1
      have e0 := (HB.out.cell (lt_cell k0)).trans k0
      have e1 := (HB.out.cell (lt_cell k1)).trans k1
      clear k0 k1
      subst hA
      have hk9 : k < 9 := by have := HV.out.nine; omega
      have hv9 := HV.out.locs k hk9
      have hz0 := Int.toNat_of_nonneg hv9.1.1
      have hz1 := Int.toNat_of_nonneg hv9.2.1
      have hb0 : (rd_T83 l k).f0.toNat ≤ 11 := by omega
      have hb1 : (rd_T83 l k).f1.toNat ≤ 47 := by omega
      have HLT := Lib.hid (show locsT l (k + 1) = locsT l k ++ encK [(rd_T83 l k).f0.toNat, (rd_T83 l k).f1.toNat] 2 from rfl)
      have HLL := Lib.hid (locsT_len HV.out k (by omega))
      rw [← hz0] at e0
      rw [← hz1] at e1
      generalize (rd_T83 l k).f0.toNat = x0 at *
      generalize (rd_T83 l k).f1.toNat = x1 at *
      clear hv9 hz0 hz1
      go_wp2_with fail
      clear e0 e1
      have hg := blk2 wr (.cells #[.int .i64 (x0 : Int), .int .i64 (x1 : Int)] 83) #[.int .i64 (x0 : Int), .int .i64 (x1 : Int)] 3
      have hbw := below_alloc2 wr (.cells #[.int .i64 (x0 : Int), .int .i64 (x1 : Int)] 83) (.cells #[.int .i64 (x0 : Int), .int .i64 (x1 : Int)] 3)
      replace HD := Aside0.mk (HD.out.keep hbw)
      replace HB := Aside0.mk (below2 HB.out HB.out.size hbw)
      replace HR := Aside0.mk (HR.out.keep hbw)
      have hgb : wr.heap.size + 1 ≠ b := by have := HQ.out; omega
      replace HQ := Aside0.mk (Nat.le_trans HQ.out hbw.size)
      clear hbw
      refine Calls.mono (wnum_calls (b + 1) b (a2 ++ locsT l k) (wr.heap.size + 1) 2 [x0, x1] 2 (by decide) (two_lt (by omega) (by omega)) _ HD.out (by have := HLL.out; have := HA2.out; rw [List.length_append]; omega) HQ.out hgb _ hg (two_cells _ _)) ?_
      clear hg hgb
      rintro e wn ⟨rfl, hD, hF, hK⟩
      replace HD := Aside0.mk hD
      replace HB := Aside0.mk (HB.out.trans (hF.below HQB.out HBB.out))
      replace HR := Aside0.mk (hK.blk HR.out (by decide) HGB.out)
      replace HQ := Aside0.mk (Nat.le_trans HQ.out hF.size)
      clear hD hF hK
      replace HD := Aside0.mk (show Bd (b + 1) b (a2 ++ locsT l (k + 1)) _ by rw [HLT.out, ← List.append_assoc]; exact HD.out)
      go_wp2_with fail
      go_roundw
      case rel => exact ⟨k + 1, by omega, by go_num, HD, HB, HR, HQ⟩
      case measure => simp [intOf]; omega
    · obtain rfl : k = l.length := by omega
      obtain ⟨wn, rfl⟩ : ∃ x, x = wr := ⟨wr, rfl⟩
      have hlast := locsT_len HV.out l.length (by have := HV.out.nine; omega)
      have hnine := HV.out.nine
      obtain ⟨a3, hE3⟩ : ∃ a, a2 ++ locsT l l.length = a := ⟨_, rfl⟩
      replace HD := Aside0.mk (show Bd (b + 1) b a3 _ by rw [← hE3]; exact HD.out)
      have HA3 := Lib.hid (show a3.length ≤ 186 by rw [← hE3, List.length_append]; have := HA2.out; omega)
      have HE3 := Lib.hid hE3
      clear hE3
      clear hlast hnine hlt hk
      obtain ⟨d0, d1, d2, d3, d4, d5, d6, d7, d8, d9, d10, d11, d12, d13⟩ := cells14 HR.out
      go_wp2_with fail
      clear d0 d1 d2 d3 d4 d5 d6 d7 d8 d9 d10 d11 d12 d13
      refine Calls.mono (bString (b + 1) b a3 wn HD.out) ?_
      rintro e wm ⟨rfl, hF⟩
      replace HB := Aside0.mk (HB.out.trans (hF.below HQB.out HBB.out))
      clear hF
      go_wp2_with fail
      refine Calls.mono (bd_seal a3 wm (Nat.le_trans HA3.out (by decide))) ?_
      rintro e wz ⟨rfl, b1⟩
      replace HB := Aside0.mk (below2 HB.out HB.out.size b1)
      clear b1
      go_wp2_with fail
      go_ret2
      refine ⟨?_, HB.out⟩
      rw [← HRES.out, ← HE3.out, ← HE2.out, ← HE1.out]
      rfl
set_option maxRecDepth 100000 in
set_option maxHeartbeats 4000000 in
theorem rw_3 (s vi vg vn : Nat) (A : Option Addr) (c : Nat) (l : List S83) (q6 : ByteArray) (q7 q8 q9 : Int) (q10 q11 : ByteArray) (fr ti : Nat) (w : World) (hr : Kd.C k83 w A l.length l) (hl : l.length ≤ 1000) (hc : l.length ≤ c) (hz : chkR (⟨(s : Int), 3, (vi : Int), (vg : Int), (vn : Int), l, q6, q7, q8, q9, q10, q11, (fr : Int), (ti : Int)⟩ : RecP) = 0) (hs : s ≤ 63) (hv : VolOk vi vg vn l) (hf : fr ≤ 1099511627776) (ht : ti ≤ 1099511627776) : Calls Try.prog 24 #[.agg #[.int .i64 (s : Int), .int .i64 3, .int .i64 (vi : Int), .int .i64 (vg : Int), .int .i64 (vn : Int), (.slice A l.length c), .string q6, .int .i64 q7, .int .i64 q8, .int .i64 q9, .string q10, .string q11, .int .i64 (fr : Int), .int .i64 (ti : Int)]] w fun e w' => e = .returned (.tuple #[.string (B (sealL (recT (⟨(s : Int), 3, (vi : Int), (vg : Int), (vn : Int), l, q6, q7, q8, q9, q10, q11, (fr : Int), (ti : Int)⟩ : RecP)))), .int .i64 0]) ∧ Below w.heap.size w w' := by
  have hu0 := Try.underlying33
  have hu1 := Try.underlying55
  have hu2 := Try.underlying29
  have hu3 := Try.underlying31
  have hu4 := Try.underlying83
  have HRES : ∃ res, B (sealL (recT (⟨(s : Int), 3, (vi : Int), (vg : Int), (vn : Int), l, q6, q7, q8, q9, q10, q11, (fr : Int), (ti : Int)⟩ : RecP))) = res := ⟨_, rfl⟩
  obtain ⟨res, hres⟩ := HRES
  rw [hres]
  have HRES := Lib.hid hres
  clear hres
  have HZ := Lib.hid hz
  have HC := Lib.hid hr
  have HL := Lib.hid hl
  have HCC := Lib.hid hc
  have HV := Lib.hid hv
  have HFR := Lib.hid hf
  have HTI := Lib.hid ht
  have hvi := hv.i.2
  have hvg := hv.g.2
  have hvn := hv.n.2
  clear hf ht hv
  clear hz hr hl hc
  have HB : Aside0 (Below w.heap.size w (w.alloc (.cells #[.int .i64 (s : Int), .int .i64 3, .int .i64 (vi : Int), .int .i64 (vg : Int), .int .i64 (vn : Int), (.slice A l.length c), .string q6, .int .i64 q7, .int .i64 q8, .int .i64 q9, .string q10, .string q11, .int .i64 (fr : Int), .int .i64 (ti : Int)] 55))) := ⟨below_alloc (Below.refl _ _) _⟩
  have HR : Aside0 (Blk (w.alloc (.cells #[.int .i64 (s : Int), .int .i64 3, .int .i64 (vi : Int), .int .i64 (vg : Int), .int .i64 (vn : Int), (.slice A l.length c), .string q6, .int .i64 q7, .int .i64 q8, .int .i64 q9, .string q10, .string q11, .int .i64 (fr : Int), .int .i64 (ti : Int)] 55)) w.heap.size #[.int .i64 (s : Int), .int .i64 3, .int .i64 (vi : Int), .int .i64 (vg : Int), .int .i64 (vn : Int), (.slice A l.length c), .string q6, .int .i64 q7, .int .i64 q8, .int .i64 q9, .string q10, .string q11, .int .i64 (fr : Int), .int .i64 (ti : Int)] 55) := ⟨Blk.new w _ _⟩
  obtain ⟨d0, d1, d2, d3, d4, d5, d6, d7, d8, d9, d10, d11, d12, d13⟩ := cells14 HR.out
  go_enter Try.func24, Try.ntmps24
  go_wp2_with fail
  clear d0 d1 d2 d3 d4 d5 d6 d7 d8 d9 d10 d11 d12 d13
  have hq0 := rchk_calls (⟨(s : Int), 3, (vi : Int), (vg : Int), (vn : Int), l, q6, q7, q8, q9, q10, q11, (fr : Int), (ti : Int)⟩ : RecP) A c (w.alloc (.cells #[.int .i64 (s : Int), .int .i64 3, .int .i64 (vi : Int), .int .i64 (vg : Int), .int .i64 (vn : Int), (.slice A l.length c), .string q6, .int .i64 q7, .int .i64 q8, .int .i64 q9, .string q10, .string q11, .int .i64 (fr : Int), .int .i64 (ti : Int)] 55)) (Kd.C_below HC.out HB.out) HL.out HCC.out
  rw [HZ.out] at hq0
  refine Calls.mono hq0 ?_
  clear hq0
  rintro e wa ⟨rfl, b1⟩
  replace HB := Aside0.mk (below2 HB.out HB.out.size b1)
  replace HR := Aside0.mk (HR.out.keep b1)
  clear b1
  go_wp2_with fail
  have HD := Aside0.mk (Bd.freshT bt_writer (wa.heap.size + 1) wa.heap.size (wa.alloc (.cells #[.pointer none, .slice none 0 0] 74)) (heap_alloc_new wa _))
  have HQ := Aside0.mk (show wa.heap.size + 1 ≤ (wa.alloc (.cells #[.pointer none, .slice none 0 0] 74)).heap.size by rw [World.size_alloc]; omega)
  have HGB := Lib.hid (show w.heap.size ≠ wa.heap.size by have := HR.out.lt; omega)
  have HBB := Lib.hid HB.out.size
  have HQB := Lib.hid (show w.heap.size ≤ wa.heap.size + 1 by have := HB.out.size; omega)
  replace HB := Aside0.mk (below_alloc HB.out (.cells #[.pointer none, .slice none 0 0] 74))
  replace HR := Aside0.mk (HR.out.alloc (.cells #[.pointer none, .slice none 0 0] 74))
  generalize (wa.alloc (.cells #[.pointer none, .slice none 0 0] 74)) = w1 at HD HQ HB HR ⊢
  generalize wa.heap.size = b at HD HQ HGB HBB HQB ⊢
  refine Calls.mono (bWriteStringK (b + 1) b [] [83, 74] _ HD.out (by decide) (by decide) HQ.out) ?_
  rintro e wn ⟨rfl, hD, hF, hK⟩
  replace HD := Aside0.mk hD
  replace HB := Aside0.mk (HB.out.trans (hF.below HQB.out HBB.out))
  replace HR := Aside0.mk (hK.blk HR.out (by decide) HGB.out)
  replace HQ := Aside0.mk (Nat.le_trans HQ.out hF.size)
  clear hD hF hK
  replace HD := Aside0.mk (show Bd (b + 1) b [83, 74] _ from HD.out)
  obtain ⟨d0, d1, d2, d3, d4, d5, d6, d7, d8, d9, d10, d11, d12, d13⟩ := cells14 HR.out
  go_wp2_with fail
  clear d0 d1 d2 d3 d4 d5 d6 d7 d8 d9 d10 d11 d12 d13
  have hg := Blk.new wn #[.int .i64 (s : Int), .int .i64 3] 3
  replace HD := Aside0.mk (HD.out.keep (below_alloc (Below.refl _ _) (.cells #[.int .i64 (s : Int), .int .i64 3] 3)))
  replace HB := Aside0.mk (below_alloc HB.out (.cells #[.int .i64 (s : Int), .int .i64 3] 3))
  replace HR := Aside0.mk (HR.out.alloc (.cells #[.int .i64 (s : Int), .int .i64 3] 3))
  have hgb : wn.heap.size ≠ b := by have := HQ.out; omega
  replace HQ := Aside0.mk (Nat.le_trans HQ.out (show wn.heap.size ≤ (wn.alloc (.cells #[.int .i64 (s : Int), .int .i64 3] 3)).heap.size by rw [World.size_alloc]; omega))
  refine Calls.mono (wnum_calls (b + 1) b [83, 74] wn.heap.size 2 [s, 3] 2 (by decide) (two_lt (by omega) (by decide)) _ HD.out (by decide) HQ.out hgb _ hg (two_cells _ _)) ?_
  clear hg hgb
  rintro e wn ⟨rfl, hD, hF, hK⟩
  replace HD := Aside0.mk hD
  replace HB := Aside0.mk (HB.out.trans (hF.below HQB.out HBB.out))
  replace HR := Aside0.mk (hK.blk HR.out (by decide) HGB.out)
  replace HQ := Aside0.mk (Nat.le_trans HQ.out hF.size)
  clear hD hF hK
  obtain ⟨a1, hE1⟩ : ∃ a, [83, 74] ++ encK [s, 3] 2 = a := ⟨_, rfl⟩
  replace HD := Aside0.mk (show Bd (b + 1) b a1 _ by rw [← hE1]; exact HD.out)
  have HA1 := Lib.hid (show a1.length ≤ 18 by rw [← hE1, List.length_append]; have := encK_len [s, 3] (two_lt (by omega) (by decide)) 2; simp; omega)
  have HE1 := Lib.hid hE1
  clear hE1
  obtain ⟨d0, d1, d2, d3, d4, d5, d6, d7, d8, d9, d10, d11, d12, d13⟩ := cells14 HR.out
  go_wp2_with fail
  clear d0 d1 d2 d3 d4 d5 d6 d7 d8 d9 d10 d11 d12 d13
  have hg := Blk.new wn #[.int .i64 (vi : Int), .int .i64 (vg : Int), .int .i64 (vn : Int)] 3
  replace HD := Aside0.mk (HD.out.keep (below_alloc (Below.refl _ _) (.cells #[.int .i64 (vi : Int), .int .i64 (vg : Int), .int .i64 (vn : Int)] 3)))
  replace HB := Aside0.mk (below_alloc HB.out (.cells #[.int .i64 (vi : Int), .int .i64 (vg : Int), .int .i64 (vn : Int)] 3))
  replace HR := Aside0.mk (HR.out.alloc (.cells #[.int .i64 (vi : Int), .int .i64 (vg : Int), .int .i64 (vn : Int)] 3))
  have hgb : wn.heap.size ≠ b := by have := HQ.out; omega
  replace HQ := Aside0.mk (Nat.le_trans HQ.out (show wn.heap.size ≤ (wn.alloc (.cells #[.int .i64 (vi : Int), .int .i64 (vg : Int), .int .i64 (vn : Int)] 3)).heap.size by rw [World.size_alloc]; omega))
  refine Calls.mono (wnum_calls (b + 1) b a1 wn.heap.size 3 [vi, vg, vn] 3 (by decide) (three_lt (by omega) (by omega) (by omega)) _ HD.out (Nat.le_trans HA1.out (by decide)) HQ.out hgb _ hg (three_cells _ _ _)) ?_
  clear hg hgb
  rintro e wn ⟨rfl, hD, hF, hK⟩
  replace HD := Aside0.mk hD
  replace HB := Aside0.mk (HB.out.trans (hF.below HQB.out HBB.out))
  replace HR := Aside0.mk (hK.blk HR.out (by decide) HGB.out)
  replace HQ := Aside0.mk (Nat.le_trans HQ.out hF.size)
  clear hD hF hK
  obtain ⟨a2, hE2⟩ : ∃ a, a1 ++ encK [vi, vg, vn] 3 = a := ⟨_, rfl⟩
  replace HD := Aside0.mk (show Bd (b + 1) b a2 _ by rw [← hE2]; exact HD.out)
  have HA2 := Lib.hid (show a2.length ≤ 42 by rw [← hE2, List.length_append]; have := encK_len [vi, vg, vn] (three_lt (by omega) (by omega) (by omega)) 3; have := HA1.out; omega)
  have HE2 := Lib.hid hE2
  clear hE2
  obtain ⟨d0, d1, d2, d3, d4, d5, d6, d7, d8, d9, d10, d11, d12, d13⟩ := cells14 HR.out
  go_wp2_with fail
  clear d0 d1 d2 d3 d4 d5 d6 d7 d8 d9 d10 d11 d12 d13
  replace HD := Aside0.mk (show Bd (b + 1) b (a2 ++ locsT l 0) _ by rw [locsT, List.append_nil]; exact HD.out)
  go_loopw [47] (fun i wr => ∃ k : Nat, k ≤ l.length ∧ i = .int .i64 k ∧ Aside0 (Bd (b + 1) b (a2 ++ locsT l k) wr) ∧ Aside0 (Below w.heap.size w wr) ∧ Aside0 (Blk wr w.heap.size #[.int .i64 (s : Int), .int .i64 3, .int .i64 (vi : Int), .int .i64 (vg : Int), .int .i64 (vn : Int), (.slice A l.length c), .string q6, .int .i64 q7, .int .i64 q8, .int .i64 q9, .string q10, .string q11, .int .i64 (fr : Int), .int .i64 (ti : Int)] 55) ∧ Aside0 (b + 1 ≤ wr.heap.size)) (fun i _ => l.length - (intOf i).toNat)
  case atStart => exact ⟨0, Nat.zero_le _, rfl, HD, HB, HR, HQ⟩
  case round =>
    clear HD HB HR HQ
    obtain ⟨k, hk, rfl, HD, HB, HR, HQ⟩ := hrel
    by_cases hlt : k < l.length
    · obtain ⟨ad, hA, k0, k1⟩ := at_T83 HC.out k (by omega) (by omega)
      rw [Int.toNat_natCast] at k0 k1
      have e0 := (HB.out.cell (lt_cell k0)).trans k0
      have e1 := (HB.out.cell (lt_cell k1)).trans k1
      clear k0 k1
      subst hA
      have hk9 : k < 9 := by have := HV.out.nine; omega
      have hv9 := HV.out.locs k hk9
      have hz0 := Int.toNat_of_nonneg hv9.1.1
      have hz1 := Int.toNat_of_nonneg hv9.2.1
      have hb0 : (rd_T83 l k).f0.toNat ≤ 11 := by omega
      have hb1 : (rd_T83 l k).f1.toNat ≤ 47 := by omega
      have HLT := Lib.hid (show locsT l (k + 1) = locsT l k ++ encK [(rd_T83 l k).f0.toNat, (rd_T83 l k).f1.toNat] 2 from rfl)
      have HLL := Lib.hid (locsT_len HV.out k (by omega))
      rw [← hz0] at e0
      rw [← hz1] at e1
      generalize (rd_T83 l k).f0.toNat = x0 at *
      generalize (rd_T83 l k).f1.toNat = x1 at *
      clear hv9 hz0 hz1
      go_wp2_with fail
      clear e0 e1
      have hg := blk2 wr (.cells #[.int .i64 (x0 : Int), .int .i64 (x1 : Int)] 83) #[.int .i64 (x0 : Int), .int .i64 (x1 : Int)] 3
      have hbw := below_alloc2 wr (.cells #[.int .i64 (x0 : Int), .int .i64 (x1 : Int)] 83) (.cells #[.int .i64 (x0 : Int), .int .i64 (x1 : Int)] 3)
      replace HD := Aside0.mk (HD.out.keep hbw)
      replace HB := Aside0.mk (below2 HB.out HB.out.size hbw)
      replace HR := Aside0.mk (HR.out.keep hbw)
      have hgb : wr.heap.size + 1 ≠ b := by have := HQ.out; omega
      replace HQ := Aside0.mk (Nat.le_trans HQ.out hbw.size)
      clear hbw
      refine Calls.mono (wnum_calls (b + 1) b (a2 ++ locsT l k) (wr.heap.size + 1) 2 [x0, x1] 2 (by decide) (two_lt (by omega) (by omega)) _ HD.out (by have := HLL.out; have := HA2.out; rw [List.length_append]; omega) HQ.out hgb _ hg (two_cells _ _)) ?_
      clear hg hgb
      rintro e wn ⟨rfl, hD, hF, hK⟩
      replace HD := Aside0.mk hD
      replace HB := Aside0.mk (HB.out.trans (hF.below HQB.out HBB.out))
      replace HR := Aside0.mk (hK.blk HR.out (by decide) HGB.out)
      replace HQ := Aside0.mk (Nat.le_trans HQ.out hF.size)
      clear hD hF hK
      replace HD := Aside0.mk (show Bd (b + 1) b (a2 ++ locsT l (k + 1)) _ by rw [HLT.out, ← List.append_assoc]; exact HD.out)
      go_wp2_with fail
      go_roundw
      case rel => exact ⟨k + 1, by omega, by go_num, HD, HB, HR, HQ⟩
      case measure => simp [intOf]; omega
    · obtain rfl : k = l.length := by omega
      obtain ⟨wn, rfl⟩ : ∃ x, x = wr := ⟨wr, rfl⟩
      have hlast := locsT_len HV.out l.length (by have := HV.out.nine; omega)
      have hnine := HV.out.nine
      obtain ⟨a3, hE3⟩ : ∃ a, a2 ++ locsT l l.length = a := ⟨_, rfl⟩
      replace HD := Aside0.mk (show Bd (b + 1) b a3 _ by rw [← hE3]; exact HD.out)
      have HA3 := Lib.hid (show a3.length ≤ 186 by rw [← hE3, List.length_append]; have := HA2.out; omega)
      have HE3 := Lib.hid hE3
      clear hE3
      clear hlast hnine hlt hk
      obtain ⟨d0, d1, d2, d3, d4, d5, d6, d7, d8, d9, d10, d11, d12, d13⟩ := cells14 HR.out
      go_wp2_with fail
      clear d0 d1 d2 d3 d4 d5 d6 d7 d8 d9 d10 d11 d12 d13
      have hg := Blk.new wn #[.int .i64 (fr : Int), .int .i64 (ti : Int)] 3
      replace HD := Aside0.mk (HD.out.keep (below_alloc (Below.refl _ _) (.cells #[.int .i64 (fr : Int), .int .i64 (ti : Int)] 3)))
      replace HB := Aside0.mk (below_alloc HB.out (.cells #[.int .i64 (fr : Int), .int .i64 (ti : Int)] 3))
      replace HR := Aside0.mk (HR.out.alloc (.cells #[.int .i64 (fr : Int), .int .i64 (ti : Int)] 3))
      have hgb : wn.heap.size ≠ b := by have := HQ.out; omega
      replace HQ := Aside0.mk (Nat.le_trans HQ.out (show wn.heap.size ≤ (wn.alloc (.cells #[.int .i64 (fr : Int), .int .i64 (ti : Int)] 3)).heap.size by rw [World.size_alloc]; omega))
      refine Calls.mono (wnum_calls (b + 1) b a3 wn.heap.size 2 [fr, ti] 2 (by decide) (two_lt (by have := HFR.out; omega) (by have := HTI.out; omega)) _ HD.out (Nat.le_trans HA3.out (by decide)) HQ.out hgb _ hg (two_cells _ _)) ?_
      clear hg hgb
      rintro e wn ⟨rfl, hD, hF, hK⟩
      replace HD := Aside0.mk hD
      replace HB := Aside0.mk (HB.out.trans (hF.below HQB.out HBB.out))
      replace HR := Aside0.mk (hK.blk HR.out (by decide) HGB.out)
      replace HQ := Aside0.mk (Nat.le_trans HQ.out hF.size)
      clear hD hF hK
      obtain ⟨a4, hE4⟩ : ∃ a, a3 ++ encK [fr, ti] 2 = a := ⟨_, rfl⟩
      replace HD := Aside0.mk (show Bd (b + 1) b a4 _ by rw [← hE4]; exact HD.out)
      have HA4 := Lib.hid (show a4.length ≤ 202 by rw [← hE4, List.length_append]; have := encK_len [fr, ti] (two_lt (by have := HFR.out; omega) (by have := HTI.out; omega)) 2; have := HA3.out; omega)
      have HE4 := Lib.hid hE4
      clear hE4
      obtain ⟨d0, d1, d2, d3, d4, d5, d6, d7, d8, d9, d10, d11, d12, d13⟩ := cells14 HR.out
      go_wp2_with fail
      clear d0 d1 d2 d3 d4 d5 d6 d7 d8 d9 d10 d11 d12 d13
      refine Calls.mono (bString (b + 1) b a4 wn HD.out) ?_
      rintro e wm ⟨rfl, hF⟩
      replace HB := Aside0.mk (HB.out.trans (hF.below HQB.out HBB.out))
      clear hF
      go_wp2_with fail
      refine Calls.mono (bd_seal a4 wm (Nat.le_trans HA4.out (by decide))) ?_
      rintro e wz ⟨rfl, b1⟩
      replace HB := Aside0.mk (below2 HB.out HB.out.size b1)
      clear b1
      go_wp2_with fail
      go_ret2
      refine ⟨?_, HB.out⟩
      rw [← HRES.out, ← HE4.out, ← HE3.out, ← HE2.out, ← HE1.out]
      rfl
set_option maxRecDepth 100000 in
set_option maxHeartbeats 4000000 in
theorem rw_bad (q0 q1 q2 q3 q4 : Int) (A : Option Addr) (c : Nat) (l : List S83) (q6 : ByteArray) (q7 q8 q9 : Int) (q10 q11 : ByteArray) (q12 q13 : Int) (w : World) (hr : Kd.C k83 w A l.length l) (hl : l.length ≤ 1000) (hc : l.length ≤ c) (z : Int) (hz : chkR (⟨q0, q1, q2, q3, q4, l, q6, q7, q8, q9, q10, q11, q12, q13⟩ : RecP) = z) (hz0 : z ≠ 0) : Calls Try.prog 24 #[.agg #[.int .i64 q0, .int .i64 q1, .int .i64 q2, .int .i64 q3, .int .i64 q4, (.slice A l.length c), .string q6, .int .i64 q7, .int .i64 q8, .int .i64 q9, .string q10, .string q11, .int .i64 q12, .int .i64 q13]] w fun e w' => e = .returned (.tuple #[.string (B []), .int .i64 z]) ∧ Below w.heap.size w w' := by
  have hu0 := Try.underlying33
  have hu1 := Try.underlying55
  have hu2 := Try.underlying29
  have hu3 := Try.underlying31
  have hu4 := Try.underlying83
  have HZ := Lib.hid hz
  have HC := Lib.hid hr
  have HL := Lib.hid hl
  have HCC := Lib.hid hc
  have z1 : (z == 0) = false := by simpa using hz0
  have z2 : (z != 0) = true := by simp [bne, z1]
  clear hz hr hl hc hz0
  have HB : Aside0 (Below w.heap.size w (w.alloc (.cells #[.int .i64 q0, .int .i64 q1, .int .i64 q2, .int .i64 q3, .int .i64 q4, (.slice A l.length c), .string q6, .int .i64 q7, .int .i64 q8, .int .i64 q9, .string q10, .string q11, .int .i64 q12, .int .i64 q13] 55))) := ⟨below_alloc (Below.refl _ _) _⟩
  have HR : Aside0 (Blk (w.alloc (.cells #[.int .i64 q0, .int .i64 q1, .int .i64 q2, .int .i64 q3, .int .i64 q4, (.slice A l.length c), .string q6, .int .i64 q7, .int .i64 q8, .int .i64 q9, .string q10, .string q11, .int .i64 q12, .int .i64 q13] 55)) w.heap.size #[.int .i64 q0, .int .i64 q1, .int .i64 q2, .int .i64 q3, .int .i64 q4, (.slice A l.length c), .string q6, .int .i64 q7, .int .i64 q8, .int .i64 q9, .string q10, .string q11, .int .i64 q12, .int .i64 q13] 55) := ⟨Blk.new w _ _⟩
  obtain ⟨d0, d1, d2, d3, d4, d5, d6, d7, d8, d9, d10, d11, d12, d13⟩ := cells14 HR.out
  go_enter Try.func24, Try.ntmps24
  go_wp2_with fail
  clear d0 d1 d2 d3 d4 d5 d6 d7 d8 d9 d10 d11 d12 d13
  have hq0 := rchk_calls (⟨q0, q1, q2, q3, q4, l, q6, q7, q8, q9, q10, q11, q12, q13⟩ : RecP) A c (w.alloc (.cells #[.int .i64 q0, .int .i64 q1, .int .i64 q2, .int .i64 q3, .int .i64 q4, (.slice A l.length c), .string q6, .int .i64 q7, .int .i64 q8, .int .i64 q9, .string q10, .string q11, .int .i64 q12, .int .i64 q13] 55)) (Kd.C_below HC.out HB.out) HL.out HCC.out
  rw [HZ.out] at hq0
  refine Calls.mono hq0 ?_
  clear hq0
  rintro e wa ⟨rfl, b1⟩
  replace HB := Aside0.mk (below2 HB.out HB.out.size b1)
  clear b1
  go_wp2_with fail
  go_ret2
  exact ⟨rfl, HB.out⟩
theorem kind_chk (r : RecP) (h : chkR r = 0) : r.kind = 0 ∨ r.kind = 1 ∨ r.kind = 2 ∨ r.kind = 3 := by
  by_cases k0 : r.kind = 0
  · exact .inl k0
  · by_cases k1 : r.kind = 1
    · exact .inr (.inl k1)
    · by_cases k2 : r.kind = 2
      · exact .inr (.inr (.inl k2))
      · by_cases k3 : r.kind = 3
        · exact .inr (.inr (.inr k3))
        · unfold chkR at h
          rw [if_neg k0, if_neg k1, if_neg k2, if_neg k3, ite_self] at h
          cases h
theorem recwrite_calls (r : RecP) (A : Option Addr) (c : Nat) (w : World) (hr : Kd.C k83 w A r.locs.length r.locs) (hl : r.locs.length ≤ 1000) (hc : r.locs.length ≤ c) : Calls Try.prog 24 #[.agg #[.int .i64 r.seq, .int .i64 r.kind, .int .i64 r.id, .int .i64 r.gen, .int .i64 r.len, (.slice A r.locs.length c), .string r.ekey, .int .i64 r.evol, .int .i64 r.eoff, .int .i64 r.elen, .string r.dig, .string r.key, .int .i64 r.frm, .int .i64 r.til]] w fun e w' => e = .returned (.tuple #[.string (recW r).1, .int .i64 (recW r).2]) ∧ Below w.heap.size w w' := by
  by_cases hz : chkR r = 0
  · have hw : recW r = (B (sealL (recT r)), 0) := if_pos hz
    rw [hw]
    obtain ⟨q0, q1, q2, q3, q4, l, q6, q7, q8, q9, q10, q11, q12, q13⟩ := r
    rcases kind_chk _ hz with h | h | h | h
    · change q1 = 0 at h
      subst h
      obtain ⟨h0, hv, hk, _, h8, h9, h10, _⟩ := chk0_0 q0 q2 q3 q4 l q6 q7 q8 q9 q10 q11 q12 q13 hz
      have hn := hv.n
      obtain ⟨s, rfl⟩ := Int.eq_ofNat_of_zero_le h0.1
      obtain ⟨vi, rfl⟩ := Int.eq_ofNat_of_zero_le hv.i.1
      obtain ⟨vg, rfl⟩ := Int.eq_ofNat_of_zero_le hv.g.1
      obtain ⟨vn, rfl⟩ := Int.eq_ofNat_of_zero_le hv.n.1
      obtain ⟨eo, rfl⟩ := Int.eq_ofNat_of_zero_le h8.1
      obtain ⟨el, rfl⟩ := Int.eq_ofNat_of_zero_le h9.1
      exact rw_0 s vi vg vn A c l q6 q7 eo el q10 q11 q12 q13 w hr hl hc hz (by omega) hv (key_ok hk).1 (by omega) (by omega) h10
    · change q1 = 1 at h
      subst h
      obtain ⟨h0, hk, _⟩ := chk0_1 q0 q2 q3 q4 l q6 q7 q8 q9 q10 q11 q12 q13 hz
      obtain ⟨s, rfl⟩ := Int.eq_ofNat_of_zero_le h0.1
      exact rw_1 s q2 q3 q4 A c l q6 q7 q8 q9 q10 q11 q12 q13 w hr hl hc hz (by omega) (key_ok hk).1
    · change q1 = 2 at h
      subst h
      obtain ⟨h0, hv, _⟩ := chk0_2 q0 q2 q3 q4 l q6 q7 q8 q9 q10 q11 q12 q13 hz
      obtain ⟨s, rfl⟩ := Int.eq_ofNat_of_zero_le h0.1
      obtain ⟨vi, rfl⟩ := Int.eq_ofNat_of_zero_le hv.i.1
      obtain ⟨vg, rfl⟩ := Int.eq_ofNat_of_zero_le hv.g.1
      obtain ⟨vn, rfl⟩ := Int.eq_ofNat_of_zero_le hv.n.1
      exact rw_2 s vi vg vn A c l q6 q7 q8 q9 q10 q11 q12 q13 w hr hl hc hz (by omega) hv
    · change q1 = 3 at h
      subst h
      obtain ⟨h0, hv, hf, ht, _, _⟩ := chk0_3 q0 q2 q3 q4 l q6 q7 q8 q9 q10 q11 q12 q13 hz
      obtain ⟨s, rfl⟩ := Int.eq_ofNat_of_zero_le h0.1
      obtain ⟨vi, rfl⟩ := Int.eq_ofNat_of_zero_le hv.i.1
      obtain ⟨vg, rfl⟩ := Int.eq_ofNat_of_zero_le hv.g.1
      obtain ⟨vn, rfl⟩ := Int.eq_ofNat_of_zero_le hv.n.1
      obtain ⟨fr, rfl⟩ := Int.eq_ofNat_of_zero_le hf.1
      obtain ⟨ti, rfl⟩ := Int.eq_ofNat_of_zero_le ht.1
      exact rw_3 s vi vg vn A c l q6 q7 q8 q9 q10 q11 fr ti w hr hl hc hz (by omega) hv (by omega) (by omega)
  · have hw : recW r = (B [], chkR r) := if_neg hz
    rw [hw]
    obtain ⟨q0, q1, q2, q3, q4, l, q6, q7, q8, q9, q10, q11, q12, q13⟩ := r
    exact rw_bad q0 q1 q2 q3 q4 A c l q6 q7 q8 q9 q10 q11 q12 q13 w hr hl hc _ rfl hz
end Go.Proofs.Ytmfcbfgijimliaa
end
section
namespace Go.Proofs.Ytmfcbfgijimliaa
open Go.RowKit Q Go.Proofs.YtmfcbfgijimliaaW.PrintWords Go.Proofs.YtmfcbfgijimliaaW.PrintLast
theorem rnx_k (s : List UInt8 × Int) (k : Nat) (hk : 20 ≤ k) (h : s.1.length ≤ 140737488355328) : pack_Reader_Number.f k (B s.1) s.2 = some (((nx s).1 : Int), B (nx s).2.1, (nx s).2.2) := by
  obtain ⟨l, e⟩ := s
  unfold nx
  simp only
  by_cases he : e = 0
  · subst he
    rw [if_pos rfl]
    exact rnum_f l k h hk
  · rw [if_neg he]
    exact rnum_err (B l) e k he
theorem tx_le (s : List UInt8 × Int) : (tx s).2.1.length ≤ s.1.length := by
  unfold tx
  split
  · exact (tkT_le _).1
  · exact Nat.le_refl _
def rst (s : List UInt8 × Int) : List UInt8 × List UInt8 × Int := if s.2 = 0 then (s.1, [], 0) else ([], s.1, s.2)
theorem rst_f (s : List UInt8 × Int) : pack_Reader_Rest.f (B s.1) s.2 = some (B (rst s).1, B (rst s).2.1, (rst s).2.2) := by
  obtain ⟨l, e⟩ := s
  unfold pack_Reader_Rest.f pack_Reader_works.f rst
  by_cases he : e = 0
  · subst he
    simp
    rfl
  · simp [he]
    rfl
def locsN : Nat → List UInt8 × Int → List S83 × List UInt8 × Int
  | 0, s => ([], s)
  | n + 1, s => (⟨((nx s).1 : Int), ((nx (nx s).2).1 : Int)⟩ :: (locsN n (nx (nx s).2).2).1, (locsN n (nx (nx s).2).2).2)
theorem locsN_le : ∀ (n : Nat) (s : List UInt8 × Int), (locsN n s).2.1.length ≤ s.1.length
  | 0, _ => Nat.le_refl _
  | n + 1, s => Nat.le_trans (locsN_le n _) (Nat.le_trans (nx_le _) (nx_le _))
theorem locsN_len : ∀ (n : Nat) (s : List UInt8 × Int), (locsN n s).1.length = n
  | 0, _ => rfl
  | n + 1, s => by
    show (locsN n _).1.length + 1 = n + 1
    rw [locsN_len n]
theorem vol_loop (V G N : Int) (n : Nat) : ∀ (i k : Nat) (s : List UInt8 × Int) (acc : List S83), i + n = 9 → n + 21 ≤ k → s.1.length ≤ 140737488355328 → acc.length = i → record_volume.l0 k (i : Int) (B s.1) s.2 V G N acc = some (V, G, N, acc ++ (locsN n s).1, B (locsN n s).2.1, (locsN n s).2.2) := by
  induction n with
  | zero =>
    intro i k s acc hi hk hs ha
    obtain ⟨k, rfl⟩ : ∃ m, k = m + 1 := ⟨k - 1, by omega⟩
    simp only [record_volume.l0]
    rw [if_neg (by omega)]
    simp [locsN]
  | succ n ih =>
    intro i k s acc hi hk hs ha
    obtain ⟨k, rfl⟩ : ∃ m, k = m + 1 := ⟨k - 1, by omega⟩
    simp only [record_volume.l0]
    rw [if_pos (by omega), rnx_k s k (by omega) hs]
    simp only [Option.bind_some]
    rw [rnx_k (nx s).2 k (by omega) (Nat.le_trans (nx_le _) hs)]
    simp only [Option.bind_some]
    rw [if_pos (by omega), wrap_s i (by omega)]
    rw [ih (i + 1) k (nx (nx s).2).2 _ (by omega) (by omega) (Nat.le_trans (Nat.le_trans (nx_le _) (nx_le _)) hs) (by rw [List.length_append, ha]; rfl), List.append_assoc]
    rfl
def volS (s : List UInt8 × Int) : (Int × Int × Int × List S83) × List UInt8 × Int :=
  ((((nx s).1 : Int), ((nx (nx s).2).1 : Int), ((nx (nx (nx s).2).2).1 : Int), (locsN 9 (nx (nx (nx s).2).2).2).1), (locsN 9 (nx (nx (nx s).2).2).2).2)
theorem volS_le (s : List UInt8 × Int) : (volS s).2.1.length ≤ s.1.length := Nat.le_trans (locsN_le 9 _) (Nat.le_trans (nx_le _) (Nat.le_trans (nx_le _) (nx_le _)))
theorem volS_f (s : List UInt8 × Int) (k : Nat) (hk : 40 ≤ k) (hs : s.1.length ≤ 140737488355328) : record_volume.f k (B s.1) s.2 = some ((volS s).1.1, (volS s).1.2.1, (volS s).1.2.2.1, (volS s).1.2.2.2, B (volS s).2.1, (volS s).2.2) := by
  have h1 := Nat.le_trans (nx_le s) hs
  have h2 := Nat.le_trans (nx_le (nx s).2) h1
  have h3 := Nat.le_trans (nx_le (nx (nx s).2).2) h2
  unfold record_volume.f
  rw [rnx_k s k (by omega) hs]
  simp only [Option.bind_some]
  rw [rnx_k (nx s).2 k (by omega) h1]
  simp only [Option.bind_some]
  rw [rnx_k (nx (nx s).2).2 k (by omega) h2]
  simp only [Option.bind_some]
  have := vol_loop ((nx s).1 : Int) ((nx (nx s).2).1 : Int) ((nx (nx (nx s).2).2).1 : Int) 9 0 k (nx (nx (nx s).2).2).2 [] rfl (by omega) h3 rfl
  exact this
def zeroR : RecP := ⟨0, 0, 0, 0, 0, [], ⟨#[]⟩, 0, 0, 0, ⟨#[]⟩, ⟨#[]⟩, 0, 0⟩
def recK (q d : Nat) (s : List UInt8 × Int) : RecP × List UInt8 × Int :=
  if d = 1 then (⟨q, d, 0, 0, 0, [], ⟨#[]⟩, 0, 0, 0, ⟨#[]⟩, B (tx s).1, 0, 0⟩, (tx s).2)
  else if d = 0 then (⟨q, d, (volS s).1.1, (volS s).1.2.1, (volS s).1.2.2.1, (volS s).1.2.2.2, B (tx (volS s).2).1, (volS s).1.1, (nx (tx (volS s).2).2).1, (nx (nx (tx (volS s).2).2).2).1, B (rst (nx (nx (tx (volS s).2).2).2).2).1, ⟨#[]⟩, 0, 0⟩, (rst (nx (nx (tx (volS s).2).2).2).2).2)
  else if d = 2 then (⟨q, d, (volS s).1.1, (volS s).1.2.1, (volS s).1.2.2.1, (volS s).1.2.2.2, ⟨#[]⟩, 0, 0, 0, ⟨#[]⟩, ⟨#[]⟩, 0, 0⟩, (volS s).2)
  else if d = 3 then (⟨q, d, (volS s).1.1, (volS s).1.2.1, (volS s).1.2.2.1, (volS s).1.2.2.2, ⟨#[]⟩, 0, 0, 0, ⟨#[]⟩, ⟨#[]⟩, (nx (volS s).2).1, (nx (nx (volS s).2).2).1⟩, (nx (nx (volS s).2).2).2)
  else (⟨q, d, 0, 0, 0, [], ⟨#[]⟩, 0, 0, 0, ⟨#[]⟩, ⟨#[]⟩, 0, 0⟩, s)
def recS (l : List UInt8) : RecP × List UInt8 × Int := recK (nx (l, 0)).1 (nx (nx (l, 0)).2).1 (nx (nx (l, 0)).2).2
def cutJ (u : List UInt8) : List UInt8 × Bool := if u.take 2 = [83, 74] then (u.drop 2, true) else (u, false)
def recR (m : List UInt8) : RecP × Int :=
  if (openL m).2 = 0 then
    (if (cutJ (openL m).1.data.toList).2 = true ∧ endE (recS (cutJ (openL m).1.data.toList).1).2 = 0 ∧ chkR (recS (cutJ (openL m).1.data.toList).1).1 = 0 then ((recS (cutJ (openL m).1.data.toList).1).1, 0) else (zeroR, 4))
  else (zeroR, (openL m).2)
theorem recS_locs (l : List UInt8) : (recS l).1.locs.length ≤ 9 := by
  have hv : ∀ s, (volS s).1.2.2.2.length = 9 := fun s => locsN_len 9 _
  unfold recS recK
  split
  · exact Nat.zero_le _
  · split
    · exact Nat.le_of_eq (hv _)
    · split
      · exact Nat.le_of_eq (hv _)
      · split
        · exact Nat.le_of_eq (hv _)
        · exact Nat.zero_le _
theorem cutJ_f (u : List UInt8) : strings_CutPrefix.f (B u) ⟨#[83, 74]⟩ = some (B (cutJ u).1, (cutJ u).2) := by
  have h2 : (⟨#[83, 74]⟩ : ByteArray).size = 2 := rfl
  have hl : (⟨#[83, 74]⟩ : ByteArray).toList = [83, 74] := by rw [ByteArray.toList_eq]
  have hx : ((B u).extract 0 2).toList = u.take 2 := by rw [B_extract, B_toList, List.drop_zero]
  unfold strings_CutPrefix.f stringslite_CutPrefix.f stringslite_HasPrefix.f cutJ
  rw [h2, hl, hx, B_size]
  by_cases hs : 2 ≤ u.length
  · rw [if_pos (by omega), if_pos (by omega), if_pos (by omega)]
    simp only [Option.bind_some]
    by_cases he : u.take 2 = [83, 74]
    · rw [he]
      simp only [beq_self_eq_true, if_true]
      rw [if_pos (by omega), if_pos (by omega)]
      simp only [Option.bind_some]
      rw [B_extract, List.take_of_length_le (by rw [List.length_drop]; exact Nat.le_refl _)]
    · have hb : (u.take 2 == [83, 74]) = false := by simpa using he
      rw [hb, if_neg he]
      rfl
  · rw [if_neg (by omega)]
    have he : ¬ u.take 2 = [83, 74] := by
      intro h
      have := congrArg List.length h
      rw [List.length_take] at this
      simp only [List.length_cons, List.length_nil] at this
      omega
    rw [if_neg he]
    rfl
end Go.Proofs.Ytmfcbfgijimliaa
end
section
namespace Go.Proofs.Ytmfcbfgijimliaa
open Go.RowKit Q Go.Proofs.YtmfcbfgijimliaaW.PrintWords Go.Proofs.YtmfcbfgijimliaaW.PrintLast Go.Proofs.YtmfcbfgijimliaaW.PrintMore
theorem Blk.grown {w w' : World} {g : Nat} {c : Array Value} {T : TypeId} {row : Option Nat} (h : Blk w g c T) (hg : w.grownBy w' row) (hne : some g ≠ row) : Blk w' g c T := (hg.block g h.lt hne).trans h
end Go.Proofs.Ytmfcbfgijimliaa
end
section
namespace Go.Proofs.Ytmfcbfgijimliaa
end Go.Proofs.Ytmfcbfgijimliaa
end
section
namespace Go.Proofs.Ytmfcbfgijimliaa
end Go.Proofs.Ytmfcbfgijimliaa
end
section
namespace Go.Proofs.Ytmfcbfgijimliaa
end Go.Proofs.Ytmfcbfgijimliaa
end
section
namespace Go.Proofs.Ytmfcbfgijimliaa
open Go.RowKit Q Go.Proofs.YtmfcbfgijimliaaW.PrintWords Go.Proofs.YtmfcbfgijimliaaW.PrintLast Go.Proofs.YtmfcbfgijimliaaW.PrintMore
def rv (r : RecP) (A : Option Addr) (c : Nat) : Array Value := #[.int .i64 r.seq, .int .i64 r.kind, .int .i64 r.id, .int .i64 r.gen, .int .i64 r.len, (.slice A r.locs.length c), .string r.ekey, .int .i64 r.evol, .int .i64 r.eoff, .int .i64 r.elen, .string r.dig, .string r.key, .int .i64 r.frm, .int .i64 r.til]
def RV (w : World) (r : RecP) (A : Option Addr) (c : Nat) : Prop := Kd.C k83 w A r.locs.length r.locs ∧ r.locs.length ≤ c
theorem RV.below {w w' : World} {r : RecP} {A : Option Addr} {c : Nat} (h : RV w r A c) (b : Below w.heap.size w w') : RV w' r A c := ⟨Kd.C_below h.1 b, h.2⟩
theorem rv_one (r : RecP) (A : Option Addr) (c : Nat) : (rv r A c).all (·.oneCell') = true := by simp [rv, Value.oneCell']
theorem put_new (w : World) (z x : Array Value) (T : TypeId) : Blk ((w.alloc (.cells z T)).setRow w.heap.size x) w.heap.size x T ∧ Below w.heap.size w ((w.alloc (.cells z T)).setRow w.heap.size x) :=
  ⟨setRow_heap _ _ _ _ _ _ (Blk.new w z T), below_setRow' (below_alloc (Below.refl _ _) _) (Nat.le_refl _) _⟩
section
variable {P : Program}
theorem results_row_tmp {fn : Func} {p q : Tmp} {ty : TypeId} (h : fn.results = #[.cell p ty, .tmp q]) (tmps : Array Value) (w : World) (g : Nat) (t : TypeId) (cs : Array Value) (fr : Nat × Nat) (d : TypeDesc)
    (hp : tmps.getD p undef = .pointer (some ⟨g, 0, none⟩)) (hg : w.heap[g]? = some (.cells cs t fr))
    (hu : P.underlying ty = some d) (hd : (match d with | .struct _ | .array _ _ => true | _ => false) = true) (hi : (P.info? ty).map (·.size) = some cs.size) :
    (results fn tmps).run P w = .ok (.tuple #[.agg cs, tmps.getD q undef]) w := by
  have hp' : tmps[p]?.getD undef = .pointer (some ⟨g, 0, none⟩) := by simpa using hp
  simp [results, h, hp', asAddr, run_loadVar_row w g t ty cs fr d hg hu hd hi]
end
theorem setCells_heap (g k : Nat) (hk : k ≠ g) : ∀ (vs : List Value) (o : Nat) (W : World), (W.setCells g o vs).heap[k]? = W.heap[k]?
  | [], _, _ => rfl
  | v :: r, o, W => (setCells_heap g k hk r (o + 1) (W.setCell ⟨g, o, none⟩ v)).trans (Below.heap_setCell _ _ _ _ hk)
end Go.Proofs.Ytmfcbfgijimliaa
end
