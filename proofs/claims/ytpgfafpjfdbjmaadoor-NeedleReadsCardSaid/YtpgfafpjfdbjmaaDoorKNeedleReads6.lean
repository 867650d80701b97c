/- Lemmas for the law NeedleReads, merged out of several texts and cut down to what it names, by a program of this session (some of the first ones are of the words that print.sh wrote for this claim). -/
import Derived.Laws.Rows
import Derived.Test.YtpgfafpjfdbjmaaDoorKNeedleReads1
import Derived.Test.YtpgfafpjfdbjmaaDoorKNeedleReads2
import Derived.Test.YtpgfafpjfdbjmaaDoorKNeedleReads3
import Derived.Test.YtpgfafpjfdbjmaaDoorKNeedleReads4
import Derived.Test.YtpgfafpjfdbjmaaDoorKNeedleReads5
set_option linter.unusedVariables false
set_option linter.unusedSimpArgs false
section
namespace Go.Proofs.YtpgfafpjfdbjmaaDoor
open Go.RowKit Q Go.Proofs.YtpgfafpjfdbjmaaDoorW.PrintWords Go.Proofs.YtpgfafpjfdbjmaaDoorW.PrintLast Go.Proofs.YtpgfafpjfdbjmaaDoorW.PrintMore
attribute [local go_sem] Oper.semAt_some
def itA (x : It) : Array Value := #[.string (B x.k), .string (B x.v), .int .i64 x.at_, .int .i64 x.e]
theorem ninfoI : (Tryd.prog.info? 3).map (fun i => (i.zero, i.size, i.bytes)) = some (some (.int .i64 0), 1, 8) := by kernel_rfl
theorem ninfoN : (Tryd.prog.info? 28).map (fun i => (i.zero, i.size, i.bytes)) = some (some (.agg #[(.string ⟨#[]⟩), (.string ⟨#[]⟩)]), 2, 32) := by kernel_rfl
structure Na (R1 R2 R3 BL BM Bs : Nat) (s : List UInt8) (w0 : World) (u1 u2 v1 v2 r1 r2 r3 : Value) (L : List S28) (AT : List Int) (W : World) : Prop where
  c1 : Boxed W R1 38 r1
  c2 : Boxed W R2 39 r2
  c3 : Boxed W R3 25 r3
  b1 : Boxed W BL 38 u1
  b2 : Boxed W BM 39 u2
  bs : Boxed W Bs 9 (.string (B s))
  o1 : Kd.R k28 28 W w0.heap.size (fun k => w0.heap.size ≤ k) v1 L
  o2 : Kd.R (Kd.int .i64) 3 W w0.heap.size (fun k => w0.heap.size ≤ k) v2 AT
  bw : Below w0.heap.size w0 W
  n1L : R1 ≠ BL
  n2M : R2 ≠ BM
  nLM : BL ≠ BM
  n12 : R1 ≠ R2
  n13 : R1 ≠ R3
  n23 : R2 ≠ R3
  g1 : w0.heap.size ≤ R1
  g2 : w0.heap.size ≤ R2
  g3 : w0.heap.size ≤ R3
  gL : w0.heap.size ≤ BL
  gM : w0.heap.size ≤ BM
section
variable {R1 R2 R3 BL BM Bs : Nat} {s : List UInt8} {w0 W W1 : World} {u1 u2 v1 v2 r1 r2 r3 : Value} {L : List S28} {AT : List Int}
theorem Na.below (h : Na R1 R2 R3 BL BM Bs s w0 u1 u2 v1 v2 r1 r2 r3 L AT W) (b : Below W.heap.size W W1) : Na R1 R2 R3 BL BM Bs s w0 u1 u2 v1 v2 r1 r2 r3 L AT W1 :=
  have hg := ngrown_below b none
  { h with
    c1 := h.c1.kept hg (by simp)
    c2 := h.c2.kept hg (by simp)
    c3 := h.c3.kept hg (by simp)
    b1 := h.b1.kept hg (by simp)
    b2 := h.b2.kept hg (by simp)
    bs := h.bs.kept hg (by simp)
    o1 := Kd.R_below h.o1 b
    o2 := Kd.R_below h.o2 b
    bw := below2 h.bw h.bw.size b }
theorem Na.calm (h : Na R1 R2 R3 BL BM Bs s w0 u1 u2 v1 v2 r1 r2 r3 L AT W) {row : Option Nat} (hg : W.grownBy W1 row) (hr : ∀ r, row = some r → w0.heap.size ≤ r ∧ ∃ o : Obj, W.heap[r]? = some o ∧ o.isCells = false) : Na R1 R2 R3 BL BM Bs s w0 u1 u2 v1 v2 r1 r2 r3 L AT W1 :=
  have hr2 := fun r e => (hr r e).2
  { h with
    c1 := nblk_calm h.c1 hg hr2
    c2 := nblk_calm h.c2 hg hr2
    c3 := nblk_calm h.c3 hg hr2
    b1 := nblk_calm h.b1 hg hr2
    b2 := nblk_calm h.b2 hg hr2
    bs := nblk_calm h.bs hg hr2
    o1 := nR_calm h.o1 hg hr2
    o2 := nR_calm h.o2 hg hr2
    bw := h.bw.grown hg h.bw.size (fun k e => (hr k e).1) }
theorem Na.app1 (h : Na R1 R2 R3 BL BM Bs s w0 u1 u2 v1 v2 r1 r2 r3 L AT W) {y : Value} {x : S28} (hR : Kd.R k28 28 W1 w0.heap.size (fun k => w0.heap.size ≤ k) y (L ++ [x])) (hg : W.grownBy W1 v1.ownBlock) : Na R1 R2 R3 BL BM Bs s w0 u1 u2 y v2 r1 r2 r3 (L ++ [x]) AT W1 :=
  have hr : ∀ k, v1.ownBlock = some k → ∃ cells, W.heap[k]? = some (.cells cells 28 (0, 0)) := fun k e => Kd.R_typed h.o1 k e
  { h with
    c1 := nbox_step h.c1 hg _ hr (by decide)
    c2 := nbox_step h.c2 hg _ hr (by decide)
    c3 := nbox_step h.c3 hg _ hr (by decide)
    b1 := nbox_step h.b1 hg _ hr (by decide)
    b2 := nbox_step h.b2 hg _ hr (by decide)
    bs := nbox_step h.bs hg _ hr (by decide)
    o1 := hR
    o2 := nR_step h.o2 hg _ hr (fun q hq => by rcases List.mem_cons.1 hq with rfl | hq; decide; cases hq)
    bw := h.bw.grown hg h.bw.size (fun k e => h.o1.1 k e) }
theorem Na.app2 (h : Na R1 R2 R3 BL BM Bs s w0 u1 u2 v1 v2 r1 r2 r3 L AT W) {y : Value} {x : Int} (hR : Kd.R (Kd.int .i64) 3 W1 w0.heap.size (fun k => w0.heap.size ≤ k) y (AT ++ [x])) (hg : W.grownBy W1 v2.ownBlock) : Na R1 R2 R3 BL BM Bs s w0 u1 u2 v1 y r1 r2 r3 L (AT ++ [x]) W1 :=
  have hr : ∀ k, v2.ownBlock = some k → ∃ cells, W.heap[k]? = some (.cells cells 3 (0, 0)) := fun k e => Kd.R_typed h.o2 k e
  { h with
    c1 := nbox_step h.c1 hg _ hr (by decide)
    c2 := nbox_step h.c2 hg _ hr (by decide)
    c3 := nbox_step h.c3 hg _ hr (by decide)
    b1 := nbox_step h.b1 hg _ hr (by decide)
    b2 := nbox_step h.b2 hg _ hr (by decide)
    bs := nbox_step h.bs hg _ hr (by decide)
    o1 := nR_step h.o1 hg _ hr (fun q hq => by rcases List.mem_cons.1 hq with rfl | hq; decide; exact absurd hq (by simp [k28, Kd.iso, Kd.pair, Kd.string, Kd.scalar]))
    o2 := hR
    bw := h.bw.grown hg h.bw.size (fun k e => h.o2.1 k e) }
theorem Na.put (h : Na R1 R2 R3 BL BM Bs s w0 u1 u2 v1 v2 r1 r2 r3 L AT W) (x1 x2 : Value) : Na R1 R2 R3 BL BM Bs s w0 x1 x2 v1 v2 r1 r2 r3 L AT ((W.setCell ⟨BL, 0, none⟩ x1).setCell ⟨BM, 0, none⟩ x2) := by
  have g1 := ngrown_set W BL 0 x1
  have g2 := ngrown_set (W.setCell ⟨BL, 0, none⟩ x1) BM 0 x2
  have r1 : ∀ k, some BL = some k → ∃ cells, W.heap[k]? = some (.cells cells 38 (0, 0)) := fun k e => by injection e with e; subst e; exact ⟨_, h.b1⟩
  have hb2 : Boxed (W.setCell ⟨BL, 0, none⟩ x1) BM 39 u2 := nbox_step h.b2 g1 _ r1 (by decide)
  have r2 : ∀ k, some BM = some k → ∃ cells, (W.setCell ⟨BL, 0, none⟩ x1).heap[k]? = some (.cells cells 39 (0, 0)) := fun k e => by injection e with e; subst e; exact ⟨_, hb2⟩
  exact
  { h with
    c1 := nbox_step (h.c1.kept g1 (fun e => h.n1L (by injection e))) g2 _ r2 (by decide)
    c2 := (nbox_step h.c2 g1 _ r1 (by decide)).kept g2 (fun e => h.n2M (by injection e))
    c3 := nbox_step (nbox_step h.c3 g1 _ r1 (by decide)) g2 _ r2 (by decide)
    b1 := nbox_step (h.b1.set x1) g2 _ r2 (by decide)
    b2 := hb2.set x2
    bs := nbox_step (nbox_step h.bs g1 _ r1 (by decide)) g2 _ r2 (by decide)
    o1 := nR_step (nR_step h.o1 g1 _ r1 (fun q hq => by rcases List.mem_cons.1 hq with rfl | hq; decide; exact absurd hq (by simp [k28, Kd.iso, Kd.pair, Kd.string, Kd.scalar]))) g2 _ r2 (fun q hq => by rcases List.mem_cons.1 hq with rfl | hq; decide; exact absurd hq (by simp [k28, Kd.iso, Kd.pair, Kd.string, Kd.scalar]))
    o2 := nR_step (nR_step h.o2 g1 _ r1 (fun q hq => by rcases List.mem_cons.1 hq with rfl | hq; decide; cases hq)) g2 _ r2 (fun q hq => by rcases List.mem_cons.1 hq with rfl | hq; decide; cases hq)
    bw := (h.bw.setCell (p := ⟨BL, 0, none⟩) h.gL _).setCell (p := ⟨BM, 0, none⟩) h.gM _ }
theorem Na.ret (h : Na R1 R2 R3 BL BM Bs s w0 u1 u2 v1 v2 r1 r2 r3 L AT W) (x1 x2 x3 : Value) : Na R1 R2 R3 BL BM Bs s w0 u1 u2 v1 v2 x1 x2 x3 L AT (((W.setCell ⟨R1, 0, none⟩ x1).setCell ⟨R2, 0, none⟩ x2).setCell ⟨R3, 0, none⟩ x3) := by
  have g1 := ngrown_set W R1 0 x1
  have g2 := ngrown_set (W.setCell ⟨R1, 0, none⟩ x1) R2 0 x2
  have g3 := ngrown_set ((W.setCell ⟨R1, 0, none⟩ x1).setCell ⟨R2, 0, none⟩ x2) R3 0 x3
  have q1 : ∀ k, some R1 = some k → ∃ cells, W.heap[k]? = some (.cells cells 38 (0, 0)) := fun k e => by injection e with e; subst e; exact ⟨_, h.c1⟩
  have hc2 : Boxed (W.setCell ⟨R1, 0, none⟩ x1) R2 39 r2 := nbox_step h.c2 g1 _ q1 (by decide)
  have q2 : ∀ k, some R2 = some k → ∃ cells, (W.setCell ⟨R1, 0, none⟩ x1).heap[k]? = some (.cells cells 39 (0, 0)) := fun k e => by injection e with e; subst e; exact ⟨_, hc2⟩
  have hc3 : Boxed ((W.setCell ⟨R1, 0, none⟩ x1).setCell ⟨R2, 0, none⟩ x2) R3 25 r3 := nbox_step (nbox_step h.c3 g1 _ q1 (by decide)) g2 _ q2 (by decide)
  have q3 : ∀ k, some R3 = some k → ∃ cells, ((W.setCell ⟨R1, 0, none⟩ x1).setCell ⟨R2, 0, none⟩ x2).heap[k]? = some (.cells cells 25 (0, 0)) := fun k e => by injection e with e; subst e; exact ⟨_, hc3⟩
  have hE : ∀ q, q ∈ 28 :: k28.E → q = 28 := fun q hq => by rcases List.mem_cons.1 hq with rfl | hq; rfl; exact absurd hq (by simp [k28, Kd.iso, Kd.pair, Kd.string, Kd.scalar])
  have hI : ∀ q, q ∈ 3 :: (Kd.int .i64).E → q = 3 := fun q hq => by rcases List.mem_cons.1 hq with rfl | hq; rfl; cases hq
  exact
  { h with
    c1 := nbox_step (nbox_step (h.c1.set x1) g2 _ q2 (by decide)) g3 _ q3 (by decide)
    c2 := nbox_step (hc2.set x2) g3 _ q3 (by decide)
    c3 := hc3.set x3
    b1 := nbox_step (nbox_step (h.b1.kept g1 (fun e => h.n1L (by injection e with e; exact e.symm))) g2 _ q2 (by decide)) g3 _ q3 (by decide)
    b2 := nbox_step ((nbox_step h.b2 g1 _ q1 (by decide)).kept g2 (fun e => h.n2M (by injection e with e; exact e.symm))) g3 _ q3 (by decide)
    bs := nbox_step (nbox_step (nbox_step h.bs g1 _ q1 (by decide)) g2 _ q2 (by decide)) g3 _ q3 (by decide)
    o1 := nR_step (nR_step (nR_step h.o1 g1 _ q1 (fun q hq => by rw [hE q hq]; decide)) g2 _ q2 (fun q hq => by rw [hE q hq]; decide)) g3 _ q3 (fun q hq => by rw [hE q hq]; decide)
    o2 := nR_step (nR_step (nR_step h.o2 g1 _ q1 (fun q hq => by rw [hI q hq]; decide)) g2 _ q2 (fun q hq => by rw [hI q hq]; decide)) g3 _ q3 (fun q hq => by rw [hI q hq]; decide)
    bw := ((h.bw.setCell (p := ⟨R1, 0, none⟩) h.g1 _).setCell (p := ⟨R2, 0, none⟩) h.g2 _).setCell (p := ⟨R3, 0, none⟩) h.g3 _ }
end
theorem nblk_ne {W : World} {g g' : Nat} {c c' : Array Value} {T T' : TypeId} (h : Blk W g c T) (h' : Blk W g' c' T') (ht : T ≠ T') : g ≠ g' := fun e => by
  subst e
  have h2 : W.heap[g]? = some (.cells c' T' (0, 0)) := h'
  rw [show W.heap[g]? = some (.cells c T (0, 0)) from h] at h2
  injection h2 with h2
  injection h2 with _ h2
  exact ht h2
theorem nblk_new {R1 R2 R3 BL BM Bs : Nat} {s : List UInt8} {w0 W : World} {u1 u2 v1 v2 r1 r2 r3 : Value} {L : List S28} {AT : List Int} (_ : Na R1 R2 R3 BL BM Bs s w0 u1 u2 v1 v2 r1 r2 r3 L AT W) (c : Array Value) (T : TypeId) : Blk (W.alloc (.cells c T)) W.heap.size c T := Blk.new W c T
theorem Na.start (s : List UInt8) (w : World) : Na w.heap.size (w.heap.size + 1) (w.heap.size + 1 + 1) (w.heap.size + 1 + 1 + 1) (w.heap.size + 1 + 1 + 1 + 1) (w.heap.size + 1 + 1 + 1 + 1 + 1) s w (.slice none 0 0) (.slice none 0 0) (.slice none 0 0) (.slice none 0 0) (.slice none 0 0) (.slice none 0 0) (.int .i64 0) [] [] ((((((w.alloc (.cells #[.slice none 0 0] 38)).alloc (.cells #[.slice none 0 0] 39)).alloc (.cells #[.int .i64 0] 25)).alloc (.cells #[.slice none 0 0] 38)).alloc (.cells #[.slice none 0 0] 39)).alloc (.cells #[.string (B s)] 9)) := by
  have e1 : (w.alloc (.cells #[.slice none 0 0] 38)).heap.size = w.heap.size + 1 := by simp
  have x1 := Boxed.new w 38 (.slice none 0 0)
  have x2 := Boxed.new (w.alloc (.cells #[.slice none 0 0] 38)) 39 (.slice none 0 0)
  have x3 := Boxed.new ((w.alloc (.cells #[.slice none 0 0] 38)).alloc (.cells #[.slice none 0 0] 39)) 25 (.int .i64 0)
  have x4 := Boxed.new (((w.alloc (.cells #[.slice none 0 0] 38)).alloc (.cells #[.slice none 0 0] 39)).alloc (.cells #[.int .i64 0] 25)) 38 (.slice none 0 0)
  have x5 := Boxed.new ((((w.alloc (.cells #[.slice none 0 0] 38)).alloc (.cells #[.slice none 0 0] 39)).alloc (.cells #[.int .i64 0] 25)).alloc (.cells #[.slice none 0 0] 38)) 39 (.slice none 0 0)
  have x6 := Boxed.new (((((w.alloc (.cells #[.slice none 0 0] 38)).alloc (.cells #[.slice none 0 0] 39)).alloc (.cells #[.int .i64 0] 25)).alloc (.cells #[.slice none 0 0] 38)).alloc (.cells #[.slice none 0 0] 39)) 9 (.string (B s))
  simp only [World.size_alloc] at x2 x3 x4 x5 x6
  exact ⟨((((x1.alloc _).alloc _).alloc _).alloc _).alloc _, (((x2.alloc _).alloc _).alloc _).alloc _, ((x3.alloc _).alloc _).alloc _, (x4.alloc _).alloc _, x5.alloc _, x6, Kd.R_nil _ _ _ _ _, Kd.R_nil _ _ _ _ _, below_alloc (below_alloc (below_alloc (below_alloc (below_alloc (below_alloc (Below.refl _ w) _) _) _) _) _) _, by omega, by omega, by omega, by omega, by omega, by omega, by omega, by omega, by omega, by omega, by omega⟩
theorem needles_calls (s : ByteArray) (w : World) (n : Nat) : CallsIn Fence.wide n Tryd.prog 41 #[.string s] w fun e w' => e = .returned (.func (.func 59) #[] #[.pointer (some ⟨w.heap.size, 0, none⟩)]) ∧ w' = w.alloc (.cells #[.string s] 9) := by
  refine callsIn_of_wp Tryd.func41 rfl trivial ?_ rfl
  simp only [Tryd.ntmps41, List.size_toArray, List.length_cons, List.length_nil, Nat.reduceAdd, Nat.reduceSub, Array.replicate_succ, Array.replicate_zero, List.push_toArray, List.append_toArray, List.nil_append, List.cons_append]
  gi_wp2
  go_ret
  exact ⟨rfl, rfl⟩
def nd (x : It) : S28 := ⟨B x.k, B x.v⟩
def ndP (p : List UInt8 × List UInt8) : S28 := ⟨B p.1, B p.2⟩
set_option maxRecDepth 100000 in
set_option maxHeartbeats 4000000 in
theorem nall_calls (s : List UInt8) (hs : s.length ≤ 1048576) (w : World) : Calls Tryd.prog 17 #[.string (B s)] w fun e w' => ∃ y1 y2 : Value, e = .returned (.tuple #[y1, y2, .int .i64 (allN s.length [] [] s).2.2]) ∧ Kd.R k28 28 w' w.heap.size (fun _ => True) y1 ((allN s.length [] [] s).1.map ndP) ∧ Kd.R (Kd.int .i64) 3 w' w.heap.size (fun _ => True) y2 (allN s.length [] [] s).2.1 ∧ Below w.heap.size w w' := by
  refine (callsIn_wide (n := 5)).1 ?_
  refine callsIn_of_wp_marks Tryd.func17 rfl trivial ?_ rfl
  simp only [Tryd.ntmps17, List.size_toArray, List.length_cons, List.length_nil, Nat.reduceAdd, Nat.reduceSub, Array.replicate_succ, Array.replicate_zero, List.push_toArray, List.append_toArray, List.nil_append, List.cons_append]
  have hF : Fence.wide.fn 41 := trivial
  gi_wp2_with (gi_at_call 41; refine (needles_calls _ _ _).mono ?_; rintro e w' ⟨rfl, rfl⟩)
  have G := Na.start s w
  generalize (((((w.alloc (.cells #[.slice none 0 0] 38)).alloc (.cells #[.slice none 0 0] 39)).alloc (.cells #[.int .i64 0] 25)).alloc (.cells #[.slice none 0 0] 38)).alloc (.cells #[.slice none 0 0] 39)).alloc (.cells #[.string (B s)] 9) = W0 at G ⊢
  have hn0 : w.heap.size ≤ W0.heap.size := G.bw.size
  have hnE : W0.heap.size ≤ W0.heap.size := Nat.le_refl _
  generalize w.heap.size + 1 + 1 + 1 + 1 + 1 = Bs at G ⊢
  generalize w.heap.size + 1 + 1 + 1 + 1 = BM at G ⊢
  generalize w.heap.size + 1 + 1 + 1 = BL at G ⊢
  generalize w.heap.size + 1 + 1 = R3 at G ⊢
  generalize w.heap.size + 1 = R2 at G ⊢
  have hb1 := G.c1.lt
  have hb2 := G.c2.lt
  have hb3 := G.c3.lt
  refine wpIn_range_stops rfl (by decide) (gf := 59) (lb := #[.pointer (some ⟨Bs, 0, none⟩)]) rfl trivial (enters_of Tryd.func59 (by kernel_rfl) rfl) (encs := fun x : It => #[itV x]) (fun _ _ => True) (fun x => x.e ≠ 0) (fun ys => allN s.length [] [] s = (ys.map (fun x => (x.k, x.v)), ys.map (fun x => x.at_), 0)) (fun ys => ∃ pre x, ys = pre ++ [x] ∧ allN s.length [] [] s = ([], [], x.e)) (s.length + 1) w.heap.size (fun W => W.cell? ⟨Bs, 0, none⟩ = some (.string (B s))) hn0 (fun _ => rfl) ?seq (fun pre W => ∃ v1 v2, Na w.heap.size R2 R3 BL BM Bs s w v1 v2 v1 v2 (.slice none 0 0) (.slice none 0 0) (.int .i64 0) (pre.map nd) (pre.map (fun x => x.at_)) W) (fun ys W => ∃ pre x u1 u2 v1 v2 L AT, ys = pre ++ [x] ∧ Na w.heap.size R2 R3 BL BM Bs s w u1 u2 v1 v2 (.slice none 0 0) (.slice none 0 0) (.int .i64 x.e) L AT W) ?own ?ownx ?bx ⟨_, _, G⟩ (fun pre x a' W => ∃ Bx v1 v2, pre.length < s.length + 1 ∧ a' = { tmps := #[.string (B s), undef, .pointer (some ⟨w.heap.size, 0, none⟩), .pointer (some ⟨R2, 0, none⟩), .pointer (some ⟨R3, 0, none⟩), .pointer (some ⟨BL, 0, none⟩), .pointer (some ⟨BM, 0, none⟩), .pointer (some ⟨Bx, 0, none⟩), .string (B s), .func (.func 59) #[] #[.pointer (some ⟨Bs, 0, none⟩)], itV x, undef, undef, undef, undef, undef, undef, undef, undef, undef, undef, undef, undef, undef, undef, undef, undef, undef], defers := [] } ∧ Blk W Bx (itA x) 75 ∧ Na w.heap.size R2 R3 BL BM Bs s w v1 v2 v1 v2 (.slice none 0 0) (.slice none 0 0) (.int .i64 0) (pre.map nd) (pre.map (fun x => x.at_)) W) ?ax ?assign ?body ?done ?left
  case seq =>
    intro lq J Jx W hW hJ hJx hBx hY h0
    exact needles_in _ (by decide) lq Bs s hs w J Jx hJ hBx hY W (below2 G.bw hn0 hW) h0
  case own =>
    rintro pre X Y row ⟨v1, v2, h⟩ hg hr
    exact ⟨v1, v2, h.calm hg (fun r e => ⟨Nat.le_trans hn0 (hr r e).1, (hr r e).2⟩)⟩
  case ownx =>
    rintro ys X Y row ⟨pre, x, u1, u2, v1, v2, L, AT, e, h⟩ hg hr
    exact ⟨pre, x, u1, u2, v1, v2, L, AT, e, h.calm hg (fun r e => ⟨Nat.le_trans hn0 (hr r e).1, (hr r e).2⟩)⟩
  case bx =>
    rintro ys X ⟨v1, v2, h⟩
    exact h.bs.cell
  case ax =>
    rintro pre x a' _ X Y row ⟨Bx, v1, v2, h2, h3, h4, h5⟩ hg hr
    exact ⟨Bx, v1, v2, h2, h3, nblk_calm h4 hg (fun r e => (hr r e).2), h5.calm hg (fun r e => ⟨Nat.le_trans hn0 (hr r e).1, (hr r e).2⟩)⟩
  case assign =>
    rintro lq pre x W K ⟨v1, v2, HG⟩ hv hN hK
    dsimp only [itV]
    gi_wp2
    have hb := below_alloc (Below.refl _ W) (.cells (itA x) 75)
    exact hK _ _ (nkeeps_below hb) (hb.mono HG.bw.size) ⟨W.heap.size, v1, v2, hN, rfl, Blk.new _ _ _, HG.below hb⟩
  case body =>
    rintro lq pre x a' W ⟨Bx, v1, v2, hpl, rfl, HX, HG⟩
    have hx1 := nblk_ne HX HG.c1 (by decide)
    have hx2 := nblk_ne HX HG.c2 (by decide)
    have cX := HX.cell (i := 3) (v := .int .i64 x.e) rfl
    have HG0 := HG.below (Below.drew (Below.refl _ _))
    have HX0 := HX.keep (Below.drew (Below.refl _ _))
    have HK0 : KeepsFrom W0.heap.size W W.drew := nkeeps_below (Below.drew (Below.refl _ _))
    have HB := HG.bw
    by_cases he : x.e = 0
    case neg =>
      have he2 : (x.e != 0) = true := bne_iff_ne.mpr he
      dsimp only [itV]
      gi_wp2
      refine startIn_ (m := 5) (by kernel_rfl) (by rintro ⟨_, _, _, _, (⟨h1, _⟩ | ⟨h1, _⟩)⟩ <;> cases h1) (S := fun w' => w'.cell? ⟨Bx, 3, none⟩ = some (.int .i64 x.e)) (ds := [4]) #[false, false, false, false, false] (by kernel_rfl) rfl rfl (cX) (fun hHeld => ?_)
      generalize W.drew = Wd at HG0 HX0 HK0 hHeld ⊢
      have hs1 := HG0.c1.cell
      have hf1 := HG0.c1.frozen
      have hs2 := (HG0.c2.other (B' := w.heap.size) (Ne.symm HG0.n12) (.slice none 0 0)).cell
      have hf2 := (HG0.c2.other (B' := w.heap.size) (Ne.symm HG0.n12) (.slice none 0 0)).frozen
      have hs3 := ((HG0.c3.other (B' := w.heap.size) (Ne.symm HG0.n13) (.slice none 0 0)).other (B' := R2) (Ne.symm HG0.n23) (.slice none 0 0)).cell
      have hf3 := ((HG0.c3.other (B' := w.heap.size) (Ne.symm HG0.n13) (.slice none 0 0)).other (B' := R2) (Ne.symm HG0.n23) (.slice none 0 0)).frozen
      refine pure_ (i := 0) (N := some 14) (v := ?_) (a' := ?_) #[true, false, false, false, false] rfl rfl (by kernel_rfl) (fun _ _ _ h => h) (Or.inl ⟨by rfl, ?_⟩) ?_ ?_
      rotate_left
      · intro w'
        go_simp
        with_reducible rfl
      rotate_left
      · simp only [Act.put, List.setIfInBounds_toArray, List.set_cons_zero, List.set_cons_succ]
        rfl
      refine take_ (i := 1) (N := some 15) (v := ?_) (a' := ?_) #[true, true, false, false, false] rfl rfl (by kernel_rfl) (fun _ _ _ h => h) (Or.inl ⟨by rfl, ?_⟩) hHeld ?_ ?_
      rotate_left
      · intro w' s0
        go_simp
        with_reducible rfl
      rotate_left
      · simp only [Act.put, List.setIfInBounds_toArray, List.set_cons_zero, List.set_cons_succ]
        rfl
      refine one_ (i := 2) (N := none) #[true, true, true, false, false] rfl rfl (by kernel_rfl) (by decide) (fun K hK => ?_)
      refine skip_ (w1 := ?_) (by rfl) rfl ?_ ?_
      rotate_left
      · go_simp
        rfl
      refine hK.out _ _ (((cell_far (p := ⟨w.heap.size, _, none⟩) hx1 _).trans hHeld)) (fun hHeld => ?_)
      clear hK K
      refine one_ (i := 3) (N := none) #[true, true, true, true, false] rfl rfl (by kernel_rfl) (by decide) (fun K hK => ?_)
      refine skip_ (w1 := ?_) (by rfl) rfl ?_ ?_
      rotate_left
      · go_simp
        rfl
      refine hK.out _ _ (((cell_far (p := ⟨R2, _, none⟩) hx2 _).trans hHeld)) (fun hHeld => ?_)
      clear hK K
      refine last_ (i := 4) (N := none) #[true, true, true, true, true] rfl rfl (by kernel_rfl) (by decide) (fun K hK => ?_)
      refine skip_ (w1 := ?_) (by rfl) rfl ?_ ?_
      rotate_left
      · go_simp
        rfl
      refine hK.out _ _ ?_
      clear hK K
      refine done_ (by kernel_rfl) ?_
      gi_wp2
      have hfin := HG0.ret (.slice none 0 0) (.slice none 0 0) (.int .i64 x.e)
      have bk := HK0.trans ((((KeepsOthers.setCell Wd ⟨w.heap.size, 0, none⟩ (.slice none 0 0)).from W0.heap.size).trans ((KeepsOthers.setCell (Wd.setCell ⟨w.heap.size, 0, none⟩ (.slice none 0 0)) ⟨R2, 0, none⟩ (.slice none 0 0)).from W0.heap.size)).trans ((KeepsOthers.setCell ((Wd.setCell ⟨w.heap.size, 0, none⟩ (.slice none 0 0)).setCell ⟨R2, 0, none⟩ (.slice none 0 0)) ⟨R3, 0, none⟩ (.int .i64 x.e)).from W0.heap.size))
      exact ⟨bk, nbelow_between HB hfin.bw bk.size, pre, x, ⟨rfl, rfl⟩, _, _, _, _, _, _, hfin⟩
    case pos =>
      have he2 : (x.e != 0) = false := bne_eq_false_iff_eq.mpr he
      have HLN : Hid ((pre.map nd).length ≤ 1048576) := Lib.hid (by rw [List.length_map]; omega)
      have HLA : Hid ((pre.map (fun x => x.at_)).length ≤ 1048576) := Lib.hid (by rw [List.length_map]; omega)
      obtain ⟨L, hL⟩ : ∃ L, pre.map nd = L := ⟨_, rfl⟩
      obtain ⟨AT, hAT⟩ : ∃ AT, pre.map (fun x => x.at_) = AT := ⟨_, rfl⟩
      rw [hL] at HLN HG HG0
      rw [hAT] at HLA HG HG0
      replace hL := Lib.hid hL
      replace hAT := Lib.hid hAT
      dsimp only [itV]
      gi_wp2
      refine startIn_ (m := 12) (by kernel_rfl) (by rintro ⟨_, _, _, _, (⟨h1, _⟩ | ⟨h1, _⟩)⟩ <;> cases h1) (S := fun w' => w'.cell? ⟨BL, 0, none⟩ = some v1 ∧ w'.cell? ⟨Bx, 0, none⟩ = some (.string (B x.k)) ∧ w'.cell? ⟨Bx, 1, none⟩ = some (.string (B x.v)) ∧ w'.cell? ⟨Bx, 2, none⟩ = some (.int .i64 x.at_) ∧ w'.cell? ⟨BM, 0, none⟩ = some v2) (ds := [10, 11]) #[false, false, false, false, false, false, false, false, false, false, false, false] (by kernel_rfl) rfl rfl ⟨HG0.b1.cell, (HX0.cell (i := 0) (v := .string (B x.k)) rfl), (HX0.cell (i := 1) (v := .string (B x.v)) rfl), (HX0.cell (i := 2) (v := .int .i64 x.at_) rfl), HG0.b2.cell⟩ (fun hHeld => ?_)
      generalize W.drew = Wd at HG0 HX0 HK0 hHeld ⊢
      refine pure_ (i := 1) (N := some 17) (v := ?_) (a' := ?_) #[false, true, false, false, false, false, false, false, false, false, false, false] rfl rfl (by kernel_rfl) (fun _ _ _ h => h) (Or.inl ⟨by rfl, ?_⟩) ?_ ?_
      rotate_left
      · intro w'
        go_simp
        with_reducible rfl
      rotate_left
      · simp only [Act.put, List.setIfInBounds_toArray, List.set_cons_zero, List.set_cons_succ]
        rfl
      refine pure_ (i := 6) (N := some 22) (v := ?_) (a' := ?_) #[false, true, false, false, false, false, true, false, false, false, false, false] rfl rfl (by kernel_rfl) (fun _ _ _ h => h) (Or.inl ⟨by rfl, ?_⟩) ?_ ?_
      rotate_left
      · intro w'
        go_simp
        with_reducible rfl
      rotate_left
      · simp only [Act.put, List.setIfInBounds_toArray, List.set_cons_zero, List.set_cons_succ]
        rfl
      refine take_ (i := 0) (N := some 16) (v := ?_) (a' := ?_) #[true, true, false, false, false, false, true, false, false, false, false, false] rfl rfl (by kernel_rfl) (fun _ _ _ h => h) (Or.inl ⟨by rfl, ?_⟩) hHeld ?_ ?_
      rotate_left
      · rintro w' ⟨s0, s1, s2, s3, s4⟩
        go_simp
        with_reducible rfl
      rotate_left
      · simp only [Act.put, List.setIfInBounds_toArray, List.set_cons_zero, List.set_cons_succ]
        rfl
      refine take_ (i := 2) (N := some 18) (v := ?_) (a' := ?_) #[true, true, true, false, false, false, true, false, false, false, false, false] rfl rfl (by kernel_rfl) (fun _ _ _ h => h) (Or.inl ⟨by rfl, ?_⟩) hHeld ?_ ?_
      rotate_left
      · rintro w' ⟨s0, s1, s2, s3, s4⟩
        go_simp
        with_reducible rfl
      rotate_left
      · simp only [Act.put, List.setIfInBounds_toArray, List.set_cons_zero, List.set_cons_succ]
        rfl
      refine take_ (i := 5) (N := some 21) (v := ?_) (a' := ?_) #[true, true, true, false, false, true, true, false, false, false, false, false] rfl rfl (by kernel_rfl) (fun _ _ _ h => h) (Or.inl ⟨by rfl, ?_⟩) hHeld ?_ ?_
      rotate_left
      · rintro w' ⟨s0, s1, s2, s3, s4⟩
        go_simp
        with_reducible rfl
      rotate_left
      · simp only [Act.put, List.setIfInBounds_toArray, List.set_cons_zero, List.set_cons_succ]
        rfl
      refine take_ (i := 7) (N := some 23) (v := ?_) (a' := ?_) #[true, true, true, false, false, true, true, true, false, false, false, false] rfl rfl (by kernel_rfl) (fun _ _ _ h => h) (Or.inl ⟨by rfl, ?_⟩) hHeld ?_ ?_
      rotate_left
      · rintro w' ⟨s0, s1, s2, s3, s4⟩
        go_simp
        with_reducible rfl
      rotate_left
      · simp only [Act.put, List.setIfInBounds_toArray, List.set_cons_zero, List.set_cons_succ]
        rfl
      refine join_ (σ := Nat × Nat × Option Addr × Nat × Nat) 3 #[true, true, true, true, true, true, true, true, true, false, false, false] (fun sg => [(19, .slice (some ⟨sg.1, 0, none⟩) 1 1), (20, .slice sg.2.2.1 sg.2.2.2.1 sg.2.2.2.2), (24, .slice (some ⟨sg.2.1, 0, none⟩) 1 1)]) (fun sg w' => Na w.heap.size R2 R3 BL BM Bs s w v1 v2 (.slice sg.2.2.1 sg.2.2.2.1 sg.2.2.2.2) v2 (.slice none 0 0) (.slice none 0 0) (.int .i64 0) (L ++ [(⟨B x.k, B x.v⟩ : S28)]) AT w' ∧ Blk w' Bx (itA x) 75 ∧ Blk w' sg.2.1 #[.int .i64 x.at_] 3 ∧ KeepsFrom W0.heap.size W w') ?_ ?_
      rotate_left
      · intro hCont
        refine two_ (i := 3) (j := 8) (Ni := some 19) (Nj := some 24) #[true, true, true, true, false, true, true, true, false, false, false, false] #[true, true, true, false, false, true, true, true, true, false, false, false] rfl rfl rfl rfl (by kernel_rfl) (by decide) (by decide) (fun K hK => ?_) (fun K hK => ?_)
        · skip
          refine value_ (w1 := ?_) (v := ?_) (by rfl) rfl ?_ ?_
          rotate_left 2
          · go_simp
            constructor
            · rfl
            · rfl
          have HG1 := HG0.below (below_alloc (Below.refl _ _) (.cells #[.string (B x.k), .string (B x.v)] 28))
          have HX1 := HX0.keep (below_alloc (Below.refl _ _) (.cells #[.string (B x.k), .string (B x.v)] 28))
          have HK1 := HK0.trans (nkeeps_below (below_alloc (Below.refl _ _) (.cells #[.string (B x.k), .string (B x.v)] 28)))
          have T3_1 := nblk_new HG0 #[.string (B x.k), .string (B x.v)] 28
          try simp only [World.size_alloc] at T3_1
          refine hK.out _ _ ⟨HG1.b1.cell, (HX1.cell (i := 0) (v := .string (B x.k)) rfl), (HX1.cell (i := 1) (v := .string (B x.v)) rfl), (HX1.cell (i := 2) (v := .int .i64 x.at_) rfl), HG1.b2.cell⟩ (fun hHeld => ?_)
          clear hK K
          refine norm_ (a' := ?_) ?_ ?_
          rotate_left
          · show Act.put _ (some 19) _ = _
            simp only [Act.put, List.setIfInBounds_toArray, List.set_cons_zero, List.set_cons_succ]
            rfl
          refine two_ (i := 4) (j := 8) (Ni := some 20) (Nj := some 24) #[true, true, true, true, true, true, true, true, false, false, false, false] #[true, true, true, true, false, true, true, true, true, false, false, false] rfl rfl rfl rfl (by kernel_rfl) (by decide) (by decide) (fun K hK => ?_) (fun K hK => ?_)
          · skip
            refine Kd.R_append_rows_step k28 (Rr := fun (y : S28) cs => cs = [.string y.f0, .string y.f1]) (w0 := w) w.heap.size (by rfl) (.tmp 16) (.tmp 19) 38 28 (.agg #[(.string ⟨#[]⟩), (.string ⟨#[]⟩)]) 32 rfl Tryd.underlying38 ninfoN rfl (by decide) (by omega) v1 L [(⟨B x.k, B x.v⟩ : S28)] (some ⟨_, 0, none⟩) 1 1 (fun j => w.heap.size ≤ j) (fun _ => False) rfl rfl HG1.o1 (nreads2 T3_1) (fun y cs e => by subst e; exact k28_mkM _ _ _ _) (fun _ hk => hk.elim) (fun j hj => Nat.le_trans HG1.bw.size hj) HG1.bw HG1.bw.size (by have := HLN.out; omega) ?_
            intro y1 w3 hR hB hg _
            obtain ⟨A1, n1, c1, rfl⟩ : ∃ A1 n1 c1, y1 = .slice A1 n1 c1 := by obtain ⟨A1, c1, e⟩ := Kd.R_slice hR; exact ⟨A1, _, c1, e⟩
            have hty := fun k e => Kd.R_typed HG1.o1 k e
            have HG2 := HG1.app1 hR hg
            have HX2 := nblk_step HX1 hg _ hty (by decide)
            have HK2 := HK1.trans (nkeeps_typed hg hty)
            refine hK.out _ _ ⟨HG2.b1.cell, (HX2.cell (i := 0) (v := .string (B x.k)) rfl), (HX2.cell (i := 1) (v := .string (B x.v)) rfl), (HX2.cell (i := 2) (v := .int .i64 x.at_) rfl), HG2.b2.cell⟩ (fun hHeld => ?_)
            clear hK K
            refine norm_ (a' := ?_) ?_ ?_
            rotate_left
            · show Act.put _ (some 20) _ = _
              simp only [Act.put, List.setIfInBounds_toArray, List.set_cons_zero, List.set_cons_succ]
              rfl
            refine one_ (i := 8) (N := some 24) #[true, true, true, true, true, true, true, true, true, false, false, false] rfl rfl (by kernel_rfl) (by decide) (fun K hK => ?_)
            refine value_ (w1 := ?_) (v := ?_) (by rfl) rfl ?_ ?_
            rotate_left 2
            · go_simp
              constructor
              · rfl
              · rfl
            have HG3 := HG2.below (below_alloc (Below.refl _ _) (.cells #[.int .i64 x.at_] 3))
            have HX3 := HX2.keep (below_alloc (Below.refl _ _) (.cells #[.int .i64 x.at_] 3))
            have HK3 := HK2.trans (nkeeps_below (below_alloc (Below.refl _ _) (.cells #[.int .i64 x.at_] 3)))
            have T8_3 := nblk_new HG2 #[.int .i64 x.at_] 3
            try simp only [World.size_alloc] at T8_3
            refine hK.out _ _ ⟨HG3.b1.cell, (HX3.cell (i := 0) (v := .string (B x.k)) rfl), (HX3.cell (i := 1) (v := .string (B x.v)) rfl), (HX3.cell (i := 2) (v := .int .i64 x.at_) rfl), HG3.b2.cell⟩ (fun hHeld => ?_)
            clear hK K
            refine norm_ (a' := ?_) ?_ ?_
            rotate_left
            · show Act.put _ (some 24) _ = _
              simp only [Act.put, List.setIfInBounds_toArray, List.set_cons_zero, List.set_cons_succ]
              rfl
            exact norm_ (by simp only [putAll, Act.put, List.setIfInBounds_toArray, List.set_cons_zero, List.set_cons_succ]) (hCont (Wd.heap.size, w3.heap.size, A1, n1, c1) _ ⟨HG3, HX3, T8_3, HK3⟩)
          · skip
            refine value_ (w1 := ?_) (v := ?_) (by rfl) rfl ?_ ?_
            rotate_left 2
            · go_simp
              constructor
              · rfl
              · rfl
            have HG2 := HG1.below (below_alloc (Below.refl _ _) (.cells #[.int .i64 x.at_] 3))
            have HX2 := HX1.keep (below_alloc (Below.refl _ _) (.cells #[.int .i64 x.at_] 3))
            have HK2 := HK1.trans (nkeeps_below (below_alloc (Below.refl _ _) (.cells #[.int .i64 x.at_] 3)))
            have T8_2 := nblk_new HG1 #[.int .i64 x.at_] 3
            try simp only [World.size_alloc] at T8_2
            have T3_2 := T3_1.alloc (.cells #[.int .i64 x.at_] 3)
            refine hK.out _ _ ⟨HG2.b1.cell, (HX2.cell (i := 0) (v := .string (B x.k)) rfl), (HX2.cell (i := 1) (v := .string (B x.v)) rfl), (HX2.cell (i := 2) (v := .int .i64 x.at_) rfl), HG2.b2.cell⟩ (fun hHeld => ?_)
            clear hK K
            refine norm_ (a' := ?_) ?_ ?_
            rotate_left
            · show Act.put _ (some 24) _ = _
              simp only [Act.put, List.setIfInBounds_toArray, List.set_cons_zero, List.set_cons_succ]
              rfl
            refine one_ (i := 4) (N := some 20) #[true, true, true, true, true, true, true, true, true, false, false, false] rfl rfl (by kernel_rfl) (by decide) (fun K hK => ?_)
            refine Kd.R_append_rows_step k28 (Rr := fun (y : S28) cs => cs = [.string y.f0, .string y.f1]) (w0 := w) w.heap.size (by rfl) (.tmp 16) (.tmp 19) 38 28 (.agg #[(.string ⟨#[]⟩), (.string ⟨#[]⟩)]) 32 rfl Tryd.underlying38 ninfoN rfl (by decide) (by omega) v1 L [(⟨B x.k, B x.v⟩ : S28)] (some ⟨_, 0, none⟩) 1 1 (fun j => w.heap.size ≤ j) (fun _ => False) rfl rfl HG2.o1 (nreads2 T3_2) (fun y cs e => by subst e; exact k28_mkM _ _ _ _) (fun _ hk => hk.elim) (fun j hj => Nat.le_trans HG2.bw.size hj) HG2.bw HG2.bw.size (by have := HLN.out; omega) ?_
            intro y1 w3 hR hB hg _
            obtain ⟨A1, n1, c1, rfl⟩ : ∃ A1 n1 c1, y1 = .slice A1 n1 c1 := by obtain ⟨A1, c1, e⟩ := Kd.R_slice hR; exact ⟨A1, _, c1, e⟩
            have hty := fun k e => Kd.R_typed HG2.o1 k e
            have HG3 := HG2.app1 hR hg
            have HX3 := nblk_step HX2 hg _ hty (by decide)
            have HK3 := HK2.trans (nkeeps_typed hg hty)
            have T8_3 := nblk_step T8_2 hg _ hty (by decide)
            refine hK.out _ _ ⟨HG3.b1.cell, (HX3.cell (i := 0) (v := .string (B x.k)) rfl), (HX3.cell (i := 1) (v := .string (B x.v)) rfl), (HX3.cell (i := 2) (v := .int .i64 x.at_) rfl), HG3.b2.cell⟩ (fun hHeld => ?_)
            clear hK K
            refine norm_ (a' := ?_) ?_ ?_
            rotate_left
            · show Act.put _ (some 20) _ = _
              simp only [Act.put, List.setIfInBounds_toArray, List.set_cons_zero, List.set_cons_succ]
              rfl
            exact norm_ (by simp only [putAll, Act.put, List.setIfInBounds_toArray, List.set_cons_zero, List.set_cons_succ]) (hCont (Wd.heap.size, (Wd.heap.size + 1), A1, n1, c1) _ ⟨HG3, HX3, T8_3, HK3⟩)
        · skip
          refine value_ (w1 := ?_) (v := ?_) (by rfl) rfl ?_ ?_
          rotate_left 2
          · go_simp
            constructor
            · rfl
            · rfl
          have HG1 := HG0.below (below_alloc (Below.refl _ _) (.cells #[.int .i64 x.at_] 3))
          have HX1 := HX0.keep (below_alloc (Below.refl _ _) (.cells #[.int .i64 x.at_] 3))
          have HK1 := HK0.trans (nkeeps_below (below_alloc (Below.refl _ _) (.cells #[.int .i64 x.at_] 3)))
          have T8_1 := nblk_new HG0 #[.int .i64 x.at_] 3
          try simp only [World.size_alloc] at T8_1
          refine hK.out _ _ ⟨HG1.b1.cell, (HX1.cell (i := 0) (v := .string (B x.k)) rfl), (HX1.cell (i := 1) (v := .string (B x.v)) rfl), (HX1.cell (i := 2) (v := .int .i64 x.at_) rfl), HG1.b2.cell⟩ (fun hHeld => ?_)
          clear hK K
          refine norm_ (a' := ?_) ?_ ?_
          rotate_left
          · show Act.put _ (some 24) _ = _
            simp only [Act.put, List.setIfInBounds_toArray, List.set_cons_zero, List.set_cons_succ]
            rfl
          refine one_ (i := 3) (N := some 19) #[true, true, true, true, false, true, true, true, true, false, false, false] rfl rfl (by kernel_rfl) (by decide) (fun K hK => ?_)
          refine value_ (w1 := ?_) (v := ?_) (by rfl) rfl ?_ ?_
          rotate_left 2
          · go_simp
            constructor
            · rfl
            · rfl
          have HG2 := HG1.below (below_alloc (Below.refl _ _) (.cells #[.string (B x.k), .string (B x.v)] 28))
          have HX2 := HX1.keep (below_alloc (Below.refl _ _) (.cells #[.string (B x.k), .string (B x.v)] 28))
          have HK2 := HK1.trans (nkeeps_below (below_alloc (Below.refl _ _) (.cells #[.string (B x.k), .string (B x.v)] 28)))
          have T3_2 := nblk_new HG1 #[.string (B x.k), .string (B x.v)] 28
          try simp only [World.size_alloc] at T3_2
          have T8_2 := T8_1.alloc (.cells #[.string (B x.k), .string (B x.v)] 28)
          refine hK.out _ _ ⟨HG2.b1.cell, (HX2.cell (i := 0) (v := .string (B x.k)) rfl), (HX2.cell (i := 1) (v := .string (B x.v)) rfl), (HX2.cell (i := 2) (v := .int .i64 x.at_) rfl), HG2.b2.cell⟩ (fun hHeld => ?_)
          clear hK K
          refine norm_ (a' := ?_) ?_ ?_
          rotate_left
          · show Act.put _ (some 19) _ = _
            simp only [Act.put, List.setIfInBounds_toArray, List.set_cons_zero, List.set_cons_succ]
            rfl
          refine one_ (i := 4) (N := some 20) #[true, true, true, true, true, true, true, true, true, false, false, false] rfl rfl (by kernel_rfl) (by decide) (fun K hK => ?_)
          refine Kd.R_append_rows_step k28 (Rr := fun (y : S28) cs => cs = [.string y.f0, .string y.f1]) (w0 := w) w.heap.size (by rfl) (.tmp 16) (.tmp 19) 38 28 (.agg #[(.string ⟨#[]⟩), (.string ⟨#[]⟩)]) 32 rfl Tryd.underlying38 ninfoN rfl (by decide) (by omega) v1 L [(⟨B x.k, B x.v⟩ : S28)] (some ⟨_, 0, none⟩) 1 1 (fun j => w.heap.size ≤ j) (fun _ => False) rfl rfl HG2.o1 (nreads2 T3_2) (fun y cs e => by subst e; exact k28_mkM _ _ _ _) (fun _ hk => hk.elim) (fun j hj => Nat.le_trans HG2.bw.size hj) HG2.bw HG2.bw.size (by have := HLN.out; omega) ?_
          intro y1 w3 hR hB hg _
          obtain ⟨A1, n1, c1, rfl⟩ : ∃ A1 n1 c1, y1 = .slice A1 n1 c1 := by obtain ⟨A1, c1, e⟩ := Kd.R_slice hR; exact ⟨A1, _, c1, e⟩
          have hty := fun k e => Kd.R_typed HG2.o1 k e
          have HG3 := HG2.app1 hR hg
          have HX3 := nblk_step HX2 hg _ hty (by decide)
          have HK3 := HK2.trans (nkeeps_typed hg hty)
          have T8_3 := nblk_step T8_2 hg _ hty (by decide)
          refine hK.out _ _ ⟨HG3.b1.cell, (HX3.cell (i := 0) (v := .string (B x.k)) rfl), (HX3.cell (i := 1) (v := .string (B x.v)) rfl), (HX3.cell (i := 2) (v := .int .i64 x.at_) rfl), HG3.b2.cell⟩ (fun hHeld => ?_)
          clear hK K
          refine norm_ (a' := ?_) ?_ ?_
          rotate_left
          · show Act.put _ (some 20) _ = _
            simp only [Act.put, List.setIfInBounds_toArray, List.set_cons_zero, List.set_cons_succ]
            rfl
          exact norm_ (by simp only [putAll, Act.put, List.setIfInBounds_toArray, List.set_cons_zero, List.set_cons_succ]) (hCont ((Wd.heap.size + 1), Wd.heap.size, A1, n1, c1) _ ⟨HG3, HX3, T8_3, HK3⟩)
      rintro ⟨g1, g2, A1, n1, c1⟩ wf ⟨HG3, HX3, T8, HK3⟩
      have hHeld : (wf.cell? ⟨BL, 0, none⟩ = some v1 ∧ wf.cell? ⟨Bx, 0, none⟩ = some (.string (B x.k)) ∧ wf.cell? ⟨Bx, 1, none⟩ = some (.string (B x.v)) ∧ wf.cell? ⟨Bx, 2, none⟩ = some (.int .i64 x.at_) ∧ wf.cell? ⟨BM, 0, none⟩ = some v2) := ⟨HG3.b1.cell, (HX3.cell (i := 0) (v := .string (B x.k)) rfl), (HX3.cell (i := 1) (v := .string (B x.v)) rfl), (HX3.cell (i := 2) (v := .int .i64 x.at_) rfl), HG3.b2.cell⟩
      refine norm_ (a' := ?_) ?_ ?_
      rotate_left
      · simp only [putAll, Act.put, List.setIfInBounds_toArray, List.set_cons_zero, List.set_cons_succ]
        rfl
      refine one_ (i := 9) (N := some 25) #[true, true, true, true, true, true, true, true, true, true, false, false] rfl rfl (by kernel_rfl) (by decide) (fun K hK => ?_)
      refine Kd.R_append_rows_step (Kd.int .i64) (Rr := fun (y : Int) cs => cs = [.int .i64 y]) (w0 := w) w.heap.size (by rfl) (.tmp 21) (.tmp 24) 39 3 (.int .i64 0) 8 rfl Tryd.underlying39 ninfoI rfl (by decide) (by omega) v2 AT [x.at_] (some ⟨g2, 0, none⟩) 1 1 (fun j => w.heap.size ≤ j) (fun _ => False) rfl rfl HG3.o2 (nreads1 T8) (fun y cs e => by subst e; exact rfl) (fun _ hk => hk.elim) (fun j hj => Nat.le_trans HG3.bw.size hj) HG3.bw HG3.bw.size (by have := HLA.out; omega) ?_
      intro y2 w5 hR2 hB2 hg2 _
      obtain ⟨A2, n2, c2, rfl⟩ : ∃ A2 n2 c2, y2 = .slice A2 n2 c2 := by obtain ⟨A2, c2, e⟩ := Kd.R_slice hR2; exact ⟨A2, _, c2, e⟩
      have hty2 := fun k e => Kd.R_typed HG3.o2 k e
      have HG4 := HG3.app2 hR2 hg2
      have HX4 := nblk_step HX3 hg2 _ hty2 (by decide)
      have HK4 := HK3.trans (nkeeps_typed hg2 hty2)
      have c13 := HG4.b1.cell
      have f13 := HG4.b1.frozen
      have c14 := (HG4.b2.other (B' := BL) (Ne.symm HG4.nLM) (.slice A1 n1 c1)).cell
      have f14 := (HG4.b2.other (B' := BL) (Ne.symm HG4.nLM) (.slice A1 n1 c1)).frozen
      refine hK.out _ _ ⟨HG4.b1.cell, (HX4.cell (i := 0) (v := .string (B x.k)) rfl), (HX4.cell (i := 1) (v := .string (B x.v)) rfl), (HX4.cell (i := 2) (v := .int .i64 x.at_) rfl), HG4.b2.cell⟩ (fun hHeld => ?_)
      clear hK K
      refine norm_ (a' := ?_) ?_ ?_
      rotate_left
      · show Act.put _ (some 25) _ = _
        simp only [Act.put, List.setIfInBounds_toArray, List.set_cons_zero, List.set_cons_succ]
        rfl
      refine last_ (i := 10) (N := none) #[true, true, true, true, true, true, true, true, true, true, true, false] rfl rfl (by kernel_rfl) (by decide) (fun K hK => ?_)
      refine skip_ (w1 := ?_) (by rfl) rfl ?_ ?_
      rotate_left
      · go_simp
        rfl
      refine hK.out _ _ ?_
      clear hK K
      refine last_ (i := 11) (N := none) #[true, true, true, true, true, true, true, true, true, true, true, true] rfl rfl (by kernel_rfl) (by decide) (fun K hK => ?_)
      refine skip_ (w1 := ?_) (by rfl) rfl ?_ ?_
      rotate_left
      · go_simp
        rfl
      refine hK.out _ _ ?_
      clear hK K
      refine done_ (by kernel_rfl) ?_
      have hfin := HG4.put (.slice A1 n1 c1) (.slice A2 n2 c2)
      have bk := HK4.trans (((KeepsOthers.setCell w5 ⟨BL, 0, none⟩ (.slice A1 n1 c1)).from W0.heap.size).trans ((KeepsOthers.setCell (w5.setCell ⟨BL, 0, none⟩ (.slice A1 n1 c1)) ⟨BM, 0, none⟩ (.slice A2 n2 c2)).from W0.heap.size))
      refine ⟨bk, nbelow_between HB hfin.bw bk.size, .inl ⟨rfl, not_not_intro he, .slice A1 n1 c1, .slice A2 n2 c2, ?_⟩⟩
      rw [List.map_append, List.map_append, hL.out, hAT.out]
      exact hfin
  case done =>
    rintro D ys W hD hS ⟨v1, v2, HG⟩ hK
    obtain ⟨A1, n1, c1, rfl⟩ : ∃ A1 n1 c1, v1 = .slice A1 n1 c1 := by obtain ⟨A1, c1, e⟩ := Kd.R_slice HG.o1; exact ⟨A1, _, c1, e⟩
    obtain ⟨A2, n2, c2, rfl⟩ : ∃ A2 n2 c2, v2 = .slice A2 n2 c2 := by obtain ⟨A2, c2, e⟩ := Kd.R_slice HG.o2; exact ⟨A2, _, c2, e⟩
    have HGd := HG.below (Below.drew (Below.refl _ _))
    have HK0 : KeepsFrom W0.heap.size W W.drew := nkeeps_below (Below.drew (Below.refl _ _))
    have cL := HGd.b1.cell
    have cM := HGd.b2.cell
    have hL1 : BL ≠ w.heap.size := Ne.symm HGd.n1L
    have hM1 := nblk_ne HGd.b2 HGd.c1 (by decide)
    gi_wp2
    refine wpIn_mono (Q := fun e a' w' => e = .normal ∧ a' = { tmps := #[.string (B s), undef, .pointer (some ⟨w.heap.size, 0, none⟩), .pointer (some ⟨R2, 0, none⟩), .pointer (some ⟨R3, 0, none⟩), .pointer (some ⟨BL, 0, none⟩), .pointer (some ⟨BM, 0, none⟩), undef, .string (B s), .func (.func 59) #[] #[.pointer (some ⟨Bs, 0, none⟩)], undef, undef, undef, undef, undef, undef, undef, undef, undef, undef, undef, undef, undef, undef, undef, undef, .slice A1 n1 c1, .slice A2 n2 c2], defers := [{ target := .collected D, args := #[] }] } ∧ Na w.heap.size R2 R3 BL BM Bs s w (.slice A1 n1 c1) (.slice A2 n2 c2) (.slice A1 n1 c1) (.slice A2 n2 c2) (.slice A1 n1 c1) (.slice A2 n2 c2) (.int .i64 0) (ys.map nd) (ys.map (fun x => x.at_)) w' ∧ KeepsFrom W0.heap.size W w') ?reg ?cont
    case reg =>
     refine wpIn_wide.2 ?_
     refine start_ (n := 5) (S := fun w' => w'.cell? ⟨BL, 0, none⟩ = some (.slice A1 n1 c1) ∧ w'.cell? ⟨BM, 0, none⟩ = some (.slice A2 n2 c2)) (ds := [3, 4]) #[false, false, false, false, false] (by kernel_rfl) rfl rfl ⟨cL, cM⟩ (fun hHeld => ?_)
     generalize W.drew = Wd at HGd HK0 cL cM hHeld ⊢
     have hs1 := HGd.c1.cell
     have hf1 := HGd.c1.frozen
     have hs2 := (HGd.c2.other (B' := w.heap.size) (Ne.symm HGd.n12) (.slice A1 n1 c1)).cell
     have hf2 := (HGd.c2.other (B' := w.heap.size) (Ne.symm HGd.n12) (.slice A1 n1 c1)).frozen
     have hs3 := ((HGd.c3.other (B' := w.heap.size) (Ne.symm HGd.n13) (.slice A1 n1 c1)).other (B' := R2) (Ne.symm HGd.n23) (.slice A2 n2 c2)).cell
     have hf3 := ((HGd.c3.other (B' := w.heap.size) (Ne.symm HGd.n13) (.slice A1 n1 c1)).other (B' := R2) (Ne.symm HGd.n23) (.slice A2 n2 c2)).frozen
     refine take_ (i := 0) (N := some 26) (v := ?_) (a' := ?_) #[true, false, false, false, false] rfl rfl (by kernel_rfl) (fun _ _ _ h => by cases h.1) (Or.inl ⟨by rfl, ?_⟩) hHeld ?_ ?_
     rotate_left
     · rintro w' ⟨s0, s1⟩
       go_simp
       with_reducible rfl
     rotate_left
     · simp only [Act.put, List.setIfInBounds_toArray, List.set_cons_zero, List.set_cons_succ]
       rfl
     refine take_ (i := 1) (N := some 27) (v := ?_) (a' := ?_) #[true, true, false, false, false] rfl rfl (by kernel_rfl) (fun _ _ _ h => by cases h.1) (Or.inl ⟨by rfl, ?_⟩) hHeld ?_ ?_
     rotate_left
     · rintro w' ⟨s0, s1⟩
       go_simp
       with_reducible rfl
     rotate_left
     · simp only [Act.put, List.setIfInBounds_toArray, List.set_cons_zero, List.set_cons_succ]
       rfl
     refine one_ (i := 2) (N := none) #[true, true, true, false, false] rfl rfl (by kernel_rfl) (by decide) (fun K hK => ?_)
     refine skip_ (w1 := ?_) (by rfl) rfl ?_ ?_
     rotate_left
     · go_simp
       rfl
     refine hK.out _ _ ⟨((cell_far (p := ⟨w.heap.size, _, none⟩) hL1 _).trans hHeld.1), ((cell_far (p := ⟨w.heap.size, _, none⟩) hM1 _).trans hHeld.2)⟩ (fun hHeld => ?_)
     clear hK K
     refine last_ (i := 3) (N := none) #[true, true, true, true, false] rfl rfl (by kernel_rfl) (by decide) (fun K hK => ?_)
     refine skip_ (w1 := ?_) (by rfl) rfl ?_ ?_
     rotate_left
     · go_simp
       rfl
     refine hK.out _ _ ?_
     clear hK K
     refine last_ (i := 4) (N := none) #[true, true, true, true, true] rfl rfl (by kernel_rfl) (by decide) (fun K hK => ?_)
     refine skip_ (w1 := ?_) (by rfl) rfl ?_ ?_
     rotate_left
     · go_simp
       rfl
     refine hK.out _ _ ?_
     clear hK K
     refine done_ (by kernel_rfl) ?_
     have hfin := HGd.ret (.slice A1 n1 c1) (.slice A2 n2 c2) (.int .i64 0)
     have bk := HK0.trans ((((KeepsOthers.setCell Wd ⟨w.heap.size, 0, none⟩ (.slice A1 n1 c1)).from W0.heap.size).trans ((KeepsOthers.setCell (Wd.setCell ⟨w.heap.size, 0, none⟩ (.slice A1 n1 c1)) ⟨R2, 0, none⟩ (.slice A2 n2 c2)).from W0.heap.size)).trans ((KeepsOthers.setCell ((Wd.setCell ⟨w.heap.size, 0, none⟩ (.slice A1 n1 c1)).setCell ⟨R2, 0, none⟩ (.slice A2 n2 c2)) ⟨R3, 0, none⟩ (.int .i64 0)).from W0.heap.size))
     exact ⟨rfl, rfl, hfin, bk⟩
    case cont =>
    rintro e a' Wf ⟨rfl, rfl, hfin, bk⟩
    have hK2 := bk.same D _ hD hK rfl
    gi_wp2
    refine ⟨by simp, .inl ⟨_, _, rfl, run_takeDeferred hK2, ?_⟩⟩
    have hfin2 := hfin.calm (grownBy_putObj' Wf D (.deferred none)) (fun r e' => by cases e'; exact ⟨Nat.le_trans hn0 hD, _, hK2, rfl⟩)
    refine ⟨_, nresults_ccc rfl _ _ rfl rfl rfl hfin2.c1 hfin2.c2 hfin2.c3 Tryd.underlying38 rfl Tryd.underlying39 rfl Tryd.underlying25 rfl, _, _, by rw [hS], ?_, ?_, hfin2.bw⟩
    · rw [hS]
      have := Kd.R_mono hfin2.o1 (fun _ _ => trivial)
      simp only [List.map_map]
      exact this
    · rw [hS]
      exact Kd.R_mono hfin2.o2 (fun _ _ => trivial)
  case left =>
    rintro D ys W hD hS ⟨pre, x, u1, u2, v1, v2, L, AT, e, HG⟩ hK
    obtain ⟨pre2, x2, e2, hS⟩ := hS
    rw [e] at e2
    obtain ⟨e4, e3⟩ := List.append_inj' e2 rfl
    obtain rfl : x = x2 := (List.cons.inj e3).1
    refine ⟨by simp, .inl ⟨_, _, rfl, run_takeDeferred hK, ?_⟩⟩
    have hfin2 := HG.calm (grownBy_putObj' W D (.deferred none)) (fun r e' => by cases e'; exact ⟨Nat.le_trans hn0 hD, _, hK, rfl⟩)
    refine ⟨_, nresults_ccc rfl _ _ rfl rfl rfl hfin2.c1 hfin2.c2 hfin2.c3 Tryd.underlying38 rfl Tryd.underlying39 rfl Tryd.underlying25 rfl, _, _, by rw [hS], ?_, ?_, hfin2.bw⟩
    · rw [hS]
      exact Kd.R_nil _ _ _ _ _
    · rw [hS]
      exact Kd.R_nil _ _ _ _ _
def needle_All.f (a0 : ByteArray) : Option (List S28 × List Int × Int) := if a0.size ≤ 1048576 then some ((allN a0.size [] [] a0.data.toList).1.map ndP, (allN a0.size [] [] a0.data.toList).2.1, (allN a0.size [] [] a0.data.toList).2.2) else none
theorem needle_All.calls (a0 : ByteArray) (r1 : List S28) (r2 : List Int) (r3 : Int) (w : World) (h : needle_All.f a0 = some (r1, r2, r3)) :
    Calls Tryd.prog 17 #[.string a0] w fun e w' => ∃ v0_ v1_ : Value, e = .returned (.tuple #[v0_, v1_, .int .i64 r3]) ∧ Kd.R k28 28 w' w.heap.size (fun _ => True) v0_ r1 ∧ Kd.R (Kd.int .i64) 3 w' w.heap.size (fun _ => True) v1_ r2 ∧ Below w.heap.size w w' := by
  unfold needle_All.f at h
  split at h
  · rename_i hs
    have e := Option.some.inj h
    simp only [Prod.mk.injEq] at e
    obtain ⟨rfl, rfl, rfl⟩ := e
    have := nall_calls a0.data.toList (by rw [size_data]; exact hs) w
    rw [B_eta, size_data] at this
    exact this
  · cases h
end Go.Proofs.YtpgfafpjfdbjmaaDoor
end
section
namespace Go.Proofs.YtpgfafpjfdbjmaaDoor
open Go.RowKit Q Go.Proofs.YtpgfafpjfdbjmaaDoorW.PrintWords Go.Proofs.YtpgfafpjfdbjmaaDoorW.PrintLast Go.Proofs.YtpgfafpjfdbjmaaDoorW.PrintMore
theorem setCells2 {w : World} {g : Nat} {a b c d : Value} {T : TypeId} (h : Blk w g #[a, b] T) : Blk ((w.setCell ⟨g, 0, none⟩ c).setCell ⟨g, 1, none⟩ d) g #[c, d] T := (h.set 0 c).set 1 d
theorem rdN_two (m : List UInt8) : rdN m = if (rtx (tkT m).2).2.2 = 0 then (if (rtx (tkT m).2).2.1.length < 32 then ([], [], [], 3) else if (rtx (tkT m).2).2.1.take 32 = SHA (rtx (tkT m).2).1 then (if chkN (tkT m).1 (rtx (tkT m).2).1 = 0 then ((tkT m).1, (rtx (tkT m).2).1, (rtx (tkT m).2).2.1.drop 32, 0) else ([], [], [], chkN (tkT m).1 (rtx (tkT m).2).1)) else ([], [], [], 5)) else ([], [], [], (rtx (tkT m).2).2.2) := by
  unfold rdN rtx
  by_cases h : (tkT m).2.2 = 0
  · rw [if_pos h, if_pos h]
  · rw [if_neg h, if_neg h, if_neg h]
theorem rtx_les (s : List UInt8 × Int) : (rtx s).2.1.length ≤ s.1.length ∧ (rtx s).1.length ≤ s.1.length := by
  unfold rtx
  split
  · exact tkT_le _
  · exact ⟨Nat.zero_le _, Nat.zero_le _⟩
set_option maxRecDepth 100000 in
set_option maxHeartbeats 4000000 in
theorem rneed_calls (m : List UInt8) (hm : m.length ≤ 17592186044416) (w : World) : Calls Tryd.prog 16 #[.string (B m)] w fun e w' => e = .returned (.tuple #[.agg #[.string (B (rdN m).1), .string (B (rdN m).2.1)], .string (B (rdN m).2.2.1), .int .i64 (rdN m).2.2.2]) ∧ Below w.heap.size w w' := by
  have hu0 := Tryd.underlying23
  have HR : Aside0 (Blk (((w.alloc (.cells #[.string ⟨#[]⟩, .string ⟨#[]⟩] 23)).alloc (.cells #[.string (B m), .int .i64 0] 70)).alloc (.cells #[.string ⟨#[]⟩, .string ⟨#[]⟩] 23)) w.heap.size #[.string ⟨#[]⟩, .string ⟨#[]⟩] 23) := ⟨((Blk.new w _ _).alloc _).alloc _⟩
  have HB : Aside0 (Below w.heap.size w (((w.alloc (.cells #[.string ⟨#[]⟩, .string ⟨#[]⟩] 23)).alloc (.cells #[.string (B m), .int .i64 0] 70)).alloc (.cells #[.string ⟨#[]⟩, .string ⟨#[]⟩] 23))) := ⟨below_alloc (below_alloc (below_alloc (Below.refl _ _) _) _) _⟩
  have HI0 := IsS70.new w (w.alloc (.cells #[.string ⟨#[]⟩, .string ⟨#[]⟩] 23)) (B m) 0 (below_alloc (Below.refl _ _) _)
  rw [World.size_alloc] at HI0
  have HI := Aside0.mk (HI0.alloc (.cells #[.string ⟨#[]⟩, .string ⟨#[]⟩] 23))
  clear HI0
  have HH0 := Blk.new ((w.alloc (.cells #[.string ⟨#[]⟩, .string ⟨#[]⟩] 23)).alloc (.cells #[.string (B m), .int .i64 0] 70)) #[.string ⟨#[]⟩, .string ⟨#[]⟩] 23
  rw [World.size_alloc, World.size_alloc] at HH0
  have HH := Aside0.mk HH0
  clear HH0
  go_enter Tryd.func16, Tryd.ntmps16
  go_wp2_with fail
  generalize (((w.alloc (.cells #[.string ⟨#[]⟩, .string ⟨#[]⟩] 23)).alloc (.cells #[.string (B m), .int .i64 0] 70)).alloc (.cells #[.string ⟨#[]⟩, .string ⟨#[]⟩] 23)) = w3 at *
  have hle1 := tkT_le m
  have hle2 := rtx_les (tkT m).2
  have hres := rdN_two m
  have hn1 := rrt_f (m, 0) (by show m.length ≤ _; omega)
  have hn2 := rrt_f (tkT m).2 (by omega)
  rw [show rtx (m, 0) = tkT m from rfl] at hn1
  obtain ⟨⟨k, s1, e1⟩, h1⟩ : ∃ p, tkT m = p := ⟨_, rfl⟩
  rw [h1] at hle1 hle2 hres hn1 hn2
  simp only at hle1 hle2 hres hn1 hn2
  obtain ⟨⟨v, r2, e2⟩, h2⟩ : ∃ p, rtx (s1, e1) = p := ⟨_, rfl⟩
  rw [h2] at hle2 hres hn2
  simp only at hle2 hres hn2
  have HN1 := Lib.hid hn1
  have HN2 := Lib.hid hn2
  have HRES0 := Lib.hid hres
  have hv : v.length ≤ 17592186044416 := by omega
  have hk : k.length ≤ 17592186044416 := by omega
  clear h1 h2 hn1 hn2 hres hle1 hle2 hm
  refine Calls.mono (sluicegateref05_Reader_Text.calls 20 (w.heap.size + 1) _ _ _ _ _ w _ HI.out HB.out HN1.out) ?_
  rintro e w4 ⟨rfl, hI4, hB4, hK4⟩
  replace HI := Aside0.mk hI4
  replace HB := Aside0.mk hB4
  replace HR := Aside0.mk (HR.out.but hK4 (by omega))
  replace HH := Aside0.mk (HH.out.but hK4 (by omega))
  clear hI4 hB4 hK4
  have hc := HH.out.cell (i := 0) (v := .string ⟨#[]⟩) rfl
  have hf := HH.out.free 0
  go_wp2_with fail
  clear hc hf
  replace HH := Aside0.mk (show Blk (w4.setCell ⟨w.heap.size + 1 + 1, 0, none⟩ (.string (B k))) (w.heap.size + 1 + 1) #[.string (B k), .string ⟨#[]⟩] 23 from HH.out.set 0 (.string (B k)))
  replace HR := Aside0.mk (HR.out.other (g' := w.heap.size + 1 + 1) (by omega) 0 (.string (B k)))
  replace HI := Aside0.mk (HI.out.far (p := ⟨w.heap.size + 1 + 1, 0, none⟩) (by show w.heap.size + 1 ≠ w.heap.size + 1 + 1; omega) (.string (B k)))
  replace HB := Aside0.mk (HB.out.setCell (p := ⟨w.heap.size + 1 + 1, 0, none⟩) (by show w.heap.size ≤ w.heap.size + 1 + 1; omega) (.string (B k)))
  generalize w4.setCell ⟨w.heap.size + 1 + 1, 0, none⟩ (.string (B k)) = wr at *
  clear HN1
  refine Calls.mono (sluicegateref05_Reader_Text.calls 20 (w.heap.size + 1) _ _ _ _ _ w _ HI.out HB.out HN2.out) ?_
  rintro e w4 ⟨rfl, hI4, hB4, hK4⟩
  replace HI := Aside0.mk hI4
  replace HB := Aside0.mk hB4
  replace HR := Aside0.mk (HR.out.but hK4 (by omega))
  replace HH := Aside0.mk (HH.out.but hK4 (by omega))
  clear hI4 hB4 hK4
  have hc := HH.out.cell (i := 1) (v := .string ⟨#[]⟩) rfl
  have hf := HH.out.free 1
  clear HN2
  have cE : w4.cell? ⟨w.heap.size + 1, 1, none⟩ = some (.int .i64 e2) := Blk.cell HI.out.1 rfl
  have cS : w4.cell? ⟨w.heap.size + 1, 0, none⟩ = some (.string (B r2)) := Blk.cell HI.out.1 rfl
  have hn1 : w.heap.size + 1 ≠ w.heap.size := by omega
  have hn2 : w.heap.size + 1 + 1 ≠ w.heap.size := by omega
  have hn3 : w.heap.size ≠ w.heap.size + 1 + 1 := by omega
  have hn4 : w.heap.size + 1 ≠ w.heap.size + 1 + 1 := by omega
  by_cases he : e2 = 0
  case neg =>
    have HRES : Hid (rdN m = ([], [], [], e2)) := Lib.hid (by rw [HRES0.out, if_neg he])
    have he2 : (e2 != 0) = true := bne_iff_ne.mpr he
    clear he HRES0
    go_wp2_with fail
    clear cE cS
    clear hc hf
    replace HH := Aside0.mk (show Blk (w4.setCell ⟨w.heap.size + 1 + 1, 1, none⟩ (.string (B v))) (w.heap.size + 1 + 1) #[.string (B k), .string (B v)] 23 from HH.out.set 1 (.string (B v)))
    replace HR := Aside0.mk (HR.out.other (g' := w.heap.size + 1 + 1) (by omega) 1 (.string (B v)))
    replace HI := Aside0.mk (HI.out.far (p := ⟨w.heap.size + 1 + 1, 1, none⟩) (by show w.heap.size + 1 ≠ w.heap.size + 1 + 1; omega) (.string (B v)))
    replace HB := Aside0.mk (HB.out.setCell (p := ⟨w.heap.size + 1 + 1, 1, none⟩) (by show w.heap.size ≤ w.heap.size + 1 + 1; omega) (.string (B v)))
    generalize w4.setCell ⟨w.heap.size + 1 + 1, 1, none⟩ (.string (B v)) = wr at *
    have cE : wr.cell? ⟨w.heap.size + 1, 1, none⟩ = some (.int .i64 e2) := Blk.cell HI.out.1 rfl
    refine start_ (n := 8) (S := fun w' => w'.cell? ⟨w.heap.size + 1, 1, none⟩ = some (.int .i64 e2)) (ds := []) #[false, false, false, false, false, false, false, false] (by kernel_rfl) rfl rfl (cE) (fun hHeld => ?_)
    replace HR : Aside0 (Blk wr.drew w.heap.size #[.string ⟨#[]⟩, .string ⟨#[]⟩] 23) := ⟨HR.out⟩
    replace HB : Aside0 (Below w.heap.size w wr.drew) := ⟨Below.drew HB.out⟩
    generalize wr.drew = wd at HR HB hHeld ⊢
    have hs0 := HR.out.cell (i := 0) (v := .string ⟨#[]⟩) rfl
    have hs1 := HR.out.cell (i := 1) (v := .string ⟨#[]⟩) rfl
    have hf0 := HR.out.free 0
    have hf1 := HR.out.free 1
    refine pure_ (i := 0) (N := some 23) (v := ?_) (a' := ?_) #[true, false, false, false, false, false, false, false] rfl rfl (by kernel_rfl) (fun _ _ _ h => h) (Or.inl ⟨by rfl, ?_⟩) ?_ ?_
    rotate_left
    · intro w'
      go_simp
      with_reducible rfl
    rotate_left
    · simp only [Act.put, List.setIfInBounds_toArray, List.set_cons_zero, List.set_cons_succ]
      rfl
    refine pure_ (i := 1) (N := some 24) (v := ?_) (a' := ?_) #[true, true, false, false, false, false, false, false] rfl rfl (by kernel_rfl) (fun _ _ _ h => h) (Or.inl ⟨by rfl, ?_⟩) ?_ ?_
    rotate_left
    · intro w'
      go_simp
      with_reducible rfl
    rotate_left
    · simp only [Act.put, List.setIfInBounds_toArray, List.set_cons_zero, List.set_cons_succ]
      rfl
    refine pure_ (i := 2) (N := some 25) (v := ?_) (a' := ?_) #[true, true, true, false, false, false, false, false] rfl rfl (by kernel_rfl) (fun _ _ _ h => h) (Or.inl ⟨by rfl, ?_⟩) ?_ ?_
    rotate_left
    · intro w'
      go_simp
      with_reducible rfl
    rotate_left
    · simp only [Act.put, List.setIfInBounds_toArray, List.set_cons_zero, List.set_cons_succ]
      rfl
    refine pure_ (i := 3) (N := some 26) (v := ?_) (a' := ?_) #[true, true, true, true, false, false, false, false] rfl rfl (by kernel_rfl) (fun _ _ _ h => h) (Or.inl ⟨by rfl, ?_⟩) ?_ ?_
    rotate_left
    · intro w'
      go_simp
      with_reducible rfl
    rotate_left
    · simp only [Act.put, List.setIfInBounds_toArray, List.set_cons_zero, List.set_cons_succ]
      rfl
    refine take_ (i := 4) (N := some 27) (v := ?_) (a' := ?_) #[true, true, true, true, true, false, false, false] rfl rfl (by kernel_rfl) (fun _ _ _ h => h) (Or.inl ⟨by rfl, ?_⟩) hHeld ?_ ?_
    rotate_left
    · intro w' s0
      go_simp
      with_reducible rfl
    rotate_left
    · simp only [Act.put, List.setIfInBounds_toArray, List.set_cons_zero, List.set_cons_succ]
      rfl
    refine one_ (i := 5) (N := none) #[true, true, true, true, true, true, false, false] rfl rfl (by kernel_rfl) (by decide) (fun K hK => ?_)
    refine skip_ (w1 := ?_) (by rfl) rfl ?_ ?_
    rotate_left
    · go_simp
      rfl
    refine hK.out _ _ (((cell_far (p := ⟨w.heap.size, _, none⟩) hn1 _).trans ((cell_far (p := ⟨w.heap.size, _, none⟩) hn1 _).trans hHeld))) (fun hHeld => ?_)
    clear hK K
    refine pure_ (i := 6) (N := some 3) (v := ?_) (a' := ?_) #[true, true, true, true, true, true, true, false] rfl rfl (by kernel_rfl) (fun _ _ _ h => h) (Or.inl ⟨by rfl, ?_⟩) ?_ ?_
    rotate_left
    · intro w'
      go_simp
      with_reducible rfl
    rotate_left
    · simp only [Act.put, List.setIfInBounds_toArray, List.set_cons_zero, List.set_cons_succ]
      rfl
    refine pure_ (i := 7) (N := some 4) (v := ?_) (a' := ?_) #[true, true, true, true, true, true, true, true] rfl rfl (by kernel_rfl) (fun _ _ _ h => h) (Or.inl ⟨by rfl, ?_⟩) ?_ ?_
    rotate_left
    · intro w'
      go_simp
      with_reducible rfl
    rotate_left
    · simp only [Act.put, List.setIfInBounds_toArray, List.set_cons_zero, List.set_cons_succ]
      rfl
    refine done_ (by kernel_rfl) ?_
    go_wp2_with fail
    refine bodyPost_ret (results_ctt rfl _ _ w.heap.size 23 #[.string (B []), .string (B [])] (0, 0) _ rfl (setCells2 HR.out) Tryd.underlying23 rfl (by kernel_rfl)) rfl ?_
    exact ⟨by rw [HRES.out]; rfl, (HB.out.setCell (p := ⟨w.heap.size, 0, none⟩) (Nat.le_refl _) _).setCell (p := ⟨w.heap.size, 1, none⟩) (Nat.le_refl _) _⟩
  subst he
  have HRES1 : Hid (rdN m = if r2.length < 32 then ([], [], [], 3) else if r2.take 32 = SHA v then (if chkN k v = 0 then (k, v, r2.drop 32, 0) else ([], [], [], chkN k v)) else ([], [], [], 5)) := Lib.hid (by rw [HRES0.out, if_pos rfl])
  clear HRES0
  by_cases h32 : r2.length < 32
  case pos =>
    have HRES : Hid (rdN m = ([], [], [], 3)) := Lib.hid (by rw [HRES1.out, if_pos h32])
    have hs : (B r2).size < 32 := by rw [B_size]; omega
    clear HRES1 h32
    have hs0 := HR.out.cell (i := 0) (v := .string ⟨#[]⟩) rfl
    have hs1 := HR.out.cell (i := 1) (v := .string ⟨#[]⟩) rfl
    have hf0 := HR.out.free 0
    have hf1 := HR.out.free 1
    go_wp2_with fail
    clear cE cS hs0 hs1 hf0 hf1
    clear hc hf
    replace HH := Aside0.mk (show Blk (w4.setCell ⟨w.heap.size + 1 + 1, 1, none⟩ (.string (B v))) (w.heap.size + 1 + 1) #[.string (B k), .string (B v)] 23 from HH.out.set 1 (.string (B v)))
    replace HR := Aside0.mk (HR.out.other (g' := w.heap.size + 1 + 1) (by omega) 1 (.string (B v)))
    replace HI := Aside0.mk (HI.out.far (p := ⟨w.heap.size + 1 + 1, 1, none⟩) (by show w.heap.size + 1 ≠ w.heap.size + 1 + 1; omega) (.string (B v)))
    replace HB := Aside0.mk (HB.out.setCell (p := ⟨w.heap.size + 1 + 1, 1, none⟩) (by show w.heap.size ≤ w.heap.size + 1 + 1; omega) (.string (B v)))
    generalize w4.setCell ⟨w.heap.size + 1 + 1, 1, none⟩ (.string (B v)) = wr at *
    refine bodyPost_ret (results_ctt rfl _ _ w.heap.size 23 #[.string (B []), .string (B [])] (0, 0) _ rfl (setCells2 HR.out) Tryd.underlying23 rfl (by kernel_rfl)) rfl ?_
    exact ⟨by rw [HRES.out]; rfl, (HB.out.setCell (p := ⟨w.heap.size, 0, none⟩) (Nat.le_refl _) _).setCell (p := ⟨w.heap.size, 1, none⟩) (Nat.le_refl _) _⟩
  have HRES2 : Hid (rdN m = if r2.take 32 = SHA v then (if chkN k v = 0 then (k, v, r2.drop 32, 0) else ([], [], [], chkN k v)) else ([], [], [], 5)) := Lib.hid (by rw [HRES1.out, if_neg h32])
  have hs : ¬ (B r2).size < 32 := by rw [B_size]; omega
  have hs2 : 32 ≤ (B r2).size := by rw [B_size]; omega
  clear HRES1
  go_wp2_with fail
  clear cE cS
  clear hc hf
  replace HH := Aside0.mk (show Blk (w4.setCell ⟨w.heap.size + 1 + 1, 1, none⟩ (.string (B v))) (w.heap.size + 1 + 1) #[.string (B k), .string (B v)] 23 from HH.out.set 1 (.string (B v)))
  replace HR := Aside0.mk (HR.out.other (g' := w.heap.size + 1 + 1) (by omega) 1 (.string (B v)))
  replace HI := Aside0.mk (HI.out.far (p := ⟨w.heap.size + 1 + 1, 1, none⟩) (by show w.heap.size + 1 ≠ w.heap.size + 1 + 1; omega) (.string (B v)))
  replace HB := Aside0.mk (HB.out.setCell (p := ⟨w.heap.size + 1 + 1, 1, none⟩) (by show w.heap.size ≤ w.heap.size + 1 + 1; omega) (.string (B v)))
  generalize w4.setCell ⟨w.heap.size + 1 + 1, 1, none⟩ (.string (B v)) = wr at *
  have cS : wr.cell? ⟨w.heap.size + 1, 0, none⟩ = some (.string (B r2)) := Blk.cell HI.out.1 rfl
  have cK := HH.out.cell (i := 0) (v := .string (B k)) rfl
  have cV := HH.out.cell (i := 1) (v := .string (B v)) rfl
  have hg1 : w.heap.size + 1 < wr.heap.size := HI.out.lt
  have hg2 : w.heap.size + 1 + 1 < wr.heap.size := HH.out.lt
  refine start_ (n := 9) (S := fun w' => w'.cell? ⟨w.heap.size + 1, 0, none⟩ = some (.string (B r2)) ∧ w'.cell? ⟨w.heap.size + 1 + 1, 1, none⟩ = some (.string (B v))) (ds := []) #[false, false, false, false, false, false, false, false, false] (by kernel_rfl) rfl rfl ⟨cS, cV⟩ (fun hHeld => ?_)
  refine pure_ (i := 0) (N := some 35) (v := ?_) (a' := ?_) #[true, false, false, false, false, false, false, false, false] rfl rfl (by kernel_rfl) (fun _ _ _ h => h) (Or.inl ⟨by rfl, ?_⟩) ?_ ?_
  rotate_left
  · intro w'
    go_simp
    with_reducible rfl
  rotate_left
  · simp only [Act.put, List.setIfInBounds_toArray, List.set_cons_zero, List.set_cons_succ]
    rfl
  refine pure_ (i := 1) (N := some 36) (v := ?_) (a' := ?_) #[true, true, false, false, false, false, false, false, false] rfl rfl (by kernel_rfl) (fun _ _ _ h => h) (Or.inl ⟨by rfl, ?_⟩) ?_ ?_
  rotate_left
  · intro w'
    go_simp
    with_reducible rfl
  rotate_left
  · simp only [Act.put, List.setIfInBounds_toArray, List.set_cons_zero, List.set_cons_succ]
    rfl
  refine pure_ (i := 2) (N := some 37) (v := ?_) (a' := ?_) #[true, true, true, false, false, false, false, false, false] rfl rfl (by kernel_rfl) (fun _ _ _ h => h) (Or.inl ⟨by rfl, ?_⟩) ?_ ?_
  rotate_left
  · intro w'
    go_simp
    with_reducible rfl
  rotate_left
  · simp only [Act.put, List.setIfInBounds_toArray, List.set_cons_zero, List.set_cons_succ]
    rfl
  refine pure_ (i := 5) (N := some 40) (v := ?_) (a' := ?_) #[true, true, true, false, false, true, false, false, false] rfl rfl (by kernel_rfl) (fun _ _ _ h => h) (Or.inl ⟨by rfl, ?_⟩) ?_ ?_
  rotate_left
  · intro w'
    go_simp
    with_reducible rfl
  rotate_left
  · simp only [Act.put, List.setIfInBounds_toArray, List.set_cons_zero, List.set_cons_succ]
    rfl
  refine take_ (i := 3) (N := some 38) (v := ?_) (a' := ?_) #[true, true, true, true, false, true, false, false, false] rfl rfl (by kernel_rfl) (fun _ _ _ h => h) (Or.inl ⟨by rfl, ?_⟩) hHeld ?_ ?_
  rotate_left
  · rintro w' ⟨s0, s1⟩
    go_simp
    with_reducible rfl
  rotate_left
  · simp only [Act.put, List.setIfInBounds_toArray, List.set_cons_zero, List.set_cons_succ]
    rfl
  refine pure_ (i := 4) (N := some 39) (v := ?_) (a' := ?_) #[true, true, true, true, true, true, false, false, false] rfl rfl (by kernel_rfl) (fun _ _ _ h => h) (Or.inl ⟨by rfl, ?_⟩) ?_ ?_
  rotate_left
  · intro w'
    go_simp
    with_reducible rfl
  rotate_left
  · simp only [Act.put, List.setIfInBounds_toArray, List.set_cons_zero, List.set_cons_succ]
    rfl
  refine take_ (i := 6) (N := some 41) (v := ?_) (a' := ?_) #[true, true, true, true, true, true, true, false, false] rfl rfl (by kernel_rfl) (fun _ _ _ h => h) (Or.inl ⟨by rfl, ?_⟩) hHeld ?_ ?_
  rotate_left
  · rintro w' ⟨s0, s1⟩
    go_simp
    with_reducible rfl
  rotate_left
  · simp only [Act.put, List.setIfInBounds_toArray, List.set_cons_zero, List.set_cons_succ]
    rfl
  refine one_ (i := 7) (N := some 42) #[true, true, true, true, true, true, true, true, false] rfl rfl (by kernel_rfl) (by decide) (fun K hK => ?_)
  refine goes_ Tryd.func40 (by kernel_rfl) rfl #[.string (B v)] (by rfl) rfl rfl (by simp only [List.map_toArray, List.map_cons, List.map_nil]; rfl) ?_
  with_reducible refine (refsum_all v hv _).mono ?_
  rintro e w5 ⟨rfl, hb⟩
  refine ⟨_, rfl, ?_⟩
  refine hK.out _ _ ⟨((hb.cell hg1).trans hHeld.1), ((hb.cell hg2).trans hHeld.2)⟩ (fun hHeld => ?_)
  clear hK K
  refine norm_ (a' := ?_) ?_ ?_
  rotate_left
  · show Act.put _ (some 42) _ = _
    simp only [Act.put, List.setIfInBounds_toArray, List.set_cons_zero, List.set_cons_succ]
    rfl
  refine pure_ (i := 8) (N := some 43) (v := ?_) (a' := ?_) #[true, true, true, true, true, true, true, true, true] rfl rfl (by kernel_rfl) (fun _ _ _ h => h) (Or.inl ⟨by rfl, ?_⟩) ?_ ?_
  rotate_left
  · intro w'
    go_simp
    with_reducible rfl
  rotate_left
  · simp only [Act.put, List.setIfInBounds_toArray, List.set_cons_zero, List.set_cons_succ]
    rfl
  refine done_ (by kernel_rfl) ?_
  replace HR : Aside0 (Blk w5 w.heap.size #[.string ⟨#[]⟩, .string ⟨#[]⟩] 23) := ⟨(show Blk wr.drew _ _ _ from HR.out).keep hb⟩
  replace HH : Aside0 (Blk w5 (w.heap.size + 1 + 1) #[.string (B k), .string (B v)] 23) := ⟨(show Blk wr.drew _ _ _ from HH.out).keep hb⟩
  replace HI : Aside0 (IsS70 w w5 (w.heap.size + 1) (B r2) 0) := ⟨(show IsS70 w wr.drew _ _ _ from HI.out).below hb⟩
  replace HB : Aside0 (Below w.heap.size w w5) := ⟨below2 (Below.drew HB.out) (Below.drew HB.out).size hb⟩
  clear hb hHeld cS cK cV hg1 hg2
  by_cases h4 : r2.take 32 = SHA v
  case neg =>
    have HRES : Hid (rdN m = ([], [], [], 5)) := Lib.hid (by rw [HRES2.out, if_neg h4])
    have hq : (((B r2).extract 0 32).toList == (B (SHA v)).toList) = false := by rw [take32, B_toList, B_toList]; exact beq_eq_false_iff_ne.mpr h4
    have hq2 : (!((B r2).extract 0 32).toList == (B (SHA v)).toList) = true := by rw [hq]; rfl
    have hq3 : ¬ ((B r2).extract 0 32).toList = (B (SHA v)).toList := by rw [take32, B_toList, B_toList]; exact h4
    clear HRES2 h4
    have hs0 := HR.out.cell (i := 0) (v := .string ⟨#[]⟩) rfl
    have hs1 := HR.out.cell (i := 1) (v := .string ⟨#[]⟩) rfl
    have hf0 := HR.out.free 0
    have hf1 := HR.out.free 1
    rw [hq2]
    go_wp2_with fail
    refine bodyPost_ret (results_ctt rfl _ _ w.heap.size 23 #[.string (B []), .string (B [])] (0, 0) _ rfl (setCells2 HR.out) Tryd.underlying23 rfl (by kernel_rfl)) rfl ?_
    exact ⟨by rw [HRES.out]; rfl, (HB.out.setCell (p := ⟨w.heap.size, 0, none⟩) (Nat.le_refl _) _).setCell (p := ⟨w.heap.size, 1, none⟩) (Nat.le_refl _) _⟩
  have HRES3 : Hid (rdN m = if chkN k v = 0 then (k, v, r2.drop 32, 0) else ([], [], [], chkN k v)) := Lib.hid (by rw [HRES2.out, if_pos h4])
  have hq : (((B r2).extract 0 32).toList == (B (SHA v)).toList) = true := by rw [take32, B_toList, B_toList]; exact beq_iff_eq.mpr h4
  have hq2 : (!((B r2).extract 0 32).toList == (B (SHA v)).toList) = false := by rw [hq]; rfl
  have hq3 : ((B r2).extract 0 32).toList = (B (SHA v)).toList := by rw [take32, B_toList, B_toList]; exact h4
  have cK := HH.out.cell (i := 0) (v := .string (B k)) rfl
  have cV := HH.out.cell (i := 1) (v := .string (B v)) rfl
  clear HRES2 h4
  rw [hq2]
  go_wp2_with (first | (refine gate_ (.load 23 (.tmp 6)) rfl ?_; refine wpList_load_row rfl 23 (.tmp 6) rfl (w.heap.size + 1 + 1) rfl _ #[.string (B k), .string (B v)] (0, 0) _ HH.out Tryd.underlying23 rfl (by kernel_rfl) ?_; simp only [Act.put, List.setIfInBounds_toArray, List.set_cons_zero, List.set_cons_succ]))
  refine Calls.mono (sluicegateref08_Check.calls (k.length + 20) (B k) (B v) _ _ (nrchk_f k v (by omega) (by omega) _ (Nat.le_refl _))) ?_
  rintro e w6 ⟨rfl, hb⟩
  replace HR := Aside0.mk (HR.out.keep hb)
  replace HH := Aside0.mk (HH.out.keep hb)
  replace HI := Aside0.mk (HI.out.below hb)
  replace HB := Aside0.mk (below2 HB.out HB.out.size hb)
  clear hb cK cV hq hq2 hq3
  by_cases h5 : chkN k v = 0
  case neg =>
    have HRES : Hid (rdN m = ([], [], [], chkN k v)) := Lib.hid (by rw [HRES3.out, if_neg h5])
    have hq : (chkN k v != 0) = true := bne_iff_ne.mpr h5
    clear HRES3 h5
    have hs0 := HR.out.cell (i := 0) (v := .string ⟨#[]⟩) rfl
    have hs1 := HR.out.cell (i := 1) (v := .string ⟨#[]⟩) rfl
    have hf0 := HR.out.free 0
    have hf1 := HR.out.free 1
    go_wp2_with fail
    refine bodyPost_ret (results_ctt rfl _ _ w.heap.size 23 #[.string (B []), .string (B [])] (0, 0) _ rfl (setCells2 HR.out) Tryd.underlying23 rfl (by kernel_rfl)) rfl ?_
    exact ⟨by rw [HRES.out]; rfl, (HB.out.setCell (p := ⟨w.heap.size, 0, none⟩) (Nat.le_refl _) _).setCell (p := ⟨w.heap.size, 1, none⟩) (Nat.le_refl _) _⟩
  case pos =>
    have HRES : Hid (rdN m = (k, v, r2.drop 32, 0)) := Lib.hid (by rw [HRES3.out, if_pos h5])
    have hq : (chkN k v != 0) = false := bne_eq_false_iff_eq.mpr h5
    clear HRES3 h5
    go_wp2_with fail
    have cS : w6.cell? ⟨w.heap.size + 1, 0, none⟩ = some (.string (B r2)) := Blk.cell HI.out.1 rfl
    have cK := HH.out.cell (i := 0) (v := .string (B k)) rfl
    have cV := HH.out.cell (i := 1) (v := .string (B v)) rfl
    refine start_ (n := 9) (S := fun w' => w'.cell? ⟨w.heap.size + 1, 0, none⟩ = some (.string (B r2)) ∧ w'.cell? ⟨w.heap.size + 1 + 1, 0, none⟩ = some (.string (B k)) ∧ w'.cell? ⟨w.heap.size + 1 + 1, 1, none⟩ = some (.string (B v))) (ds := []) #[false, false, false, false, false, false, false, false, false] (by kernel_rfl) rfl rfl ⟨cS, cK, cV⟩ (fun hHeld => ?_)
    replace HR : Aside0 (Blk w6.drew w.heap.size #[.string ⟨#[]⟩, .string ⟨#[]⟩] 23) := ⟨HR.out⟩
    replace HB : Aside0 (Below w.heap.size w w6.drew) := ⟨Below.drew HB.out⟩
    generalize w6.drew = wd at HR HB hHeld ⊢
    have hs0 := HR.out.cell (i := 0) (v := .string ⟨#[]⟩) rfl
    have hs1 := HR.out.cell (i := 1) (v := .string ⟨#[]⟩) rfl
    have hf0 := HR.out.free 0
    have hf1 := HR.out.free 1
    refine pure_ (i := 1) (N := some 52) (v := ?_) (a' := ?_) #[false, true, false, false, false, false, false, false, false] rfl rfl (by kernel_rfl) (fun _ _ _ h => h) (Or.inl ⟨by rfl, ?_⟩) ?_ ?_
    rotate_left
    · intro w'
      go_simp
      with_reducible rfl
    rotate_left
    · simp only [Act.put, List.setIfInBounds_toArray, List.set_cons_zero, List.set_cons_succ]
      rfl
    refine pure_ (i := 2) (N := some 53) (v := ?_) (a' := ?_) #[false, true, true, false, false, false, false, false, false] rfl rfl (by kernel_rfl) (fun _ _ _ h => h) (Or.inl ⟨by rfl, ?_⟩) ?_ ?_
    rotate_left
    · intro w'
      go_simp
      with_reducible rfl
    rotate_left
    · simp only [Act.put, List.setIfInBounds_toArray, List.set_cons_zero, List.set_cons_succ]
      rfl
    refine pure_ (i := 3) (N := some 54) (v := ?_) (a' := ?_) #[false, true, true, true, false, false, false, false, false] rfl rfl (by kernel_rfl) (fun _ _ _ h => h) (Or.inl ⟨by rfl, ?_⟩) ?_ ?_
    rotate_left
    · intro w'
      go_simp
      with_reducible rfl
    rotate_left
    · simp only [Act.put, List.setIfInBounds_toArray, List.set_cons_zero, List.set_cons_succ]
      rfl
    refine take_ (i := 0) (N := some 51) (v := ?_) (a' := ?_) #[true, true, true, true, false, false, false, false, false] rfl rfl (by kernel_rfl) (fun _ _ _ h => h) (Or.inl ⟨by rfl, ?_⟩) hHeld ?_ ?_
    rotate_left
    · rintro w' ⟨s0, s1, s2⟩
      go_simp
      with_reducible rfl
    rotate_left
    · simp only [Act.put, List.setIfInBounds_toArray, List.set_cons_zero, List.set_cons_succ]
      rfl
    refine take_ (i := 4) (N := some 55) (v := ?_) (a' := ?_) #[true, true, true, true, true, false, false, false, false] rfl rfl (by kernel_rfl) (fun _ _ _ h => h) (Or.inl ⟨by rfl, ?_⟩) hHeld ?_ ?_
    rotate_left
    · rintro w' ⟨s0, s1, s2⟩
      go_simp
      with_reducible rfl
    rotate_left
    · simp only [Act.put, List.setIfInBounds_toArray, List.set_cons_zero, List.set_cons_succ]
      rfl
    refine pure_ (i := 5) (N := some 56) (v := ?_) (a' := ?_) #[true, true, true, true, true, true, false, false, false] rfl rfl (by kernel_rfl) (fun _ _ _ h => h) (Or.inl ⟨by rfl, ?_⟩) ?_ ?_
    rotate_left
    · intro w'
      go_simp
      with_reducible rfl
    rotate_left
    · simp only [Act.put, List.setIfInBounds_toArray, List.set_cons_zero, List.set_cons_succ]
      rfl
    refine one_ (i := 6) (N := none) #[true, true, true, true, true, true, true, false, false] rfl rfl (by kernel_rfl) (by decide) (fun K hK => ?_)
    refine skip_ (w1 := ?_) (by rfl) rfl ?_ ?_
    rotate_left
    · go_simp
      rfl
    refine hK.out _ _ ⟨((cell_far (p := ⟨w.heap.size, _, none⟩) hn1 _).trans ((cell_far (p := ⟨w.heap.size, _, none⟩) hn1 _).trans hHeld.1)), ((cell_far (p := ⟨w.heap.size, _, none⟩) hn2 _).trans ((cell_far (p := ⟨w.heap.size, _, none⟩) hn2 _).trans hHeld.2.1)), ((cell_far (p := ⟨w.heap.size, _, none⟩) hn2 _).trans ((cell_far (p := ⟨w.heap.size, _, none⟩) hn2 _).trans hHeld.2.2))⟩ (fun hHeld => ?_)
    clear hK K
    refine pure_ (i := 7) (N := some 3) (v := ?_) (a' := ?_) #[true, true, true, true, true, true, true, true, false] rfl rfl (by kernel_rfl) (fun _ _ _ h => h) (Or.inl ⟨by rfl, ?_⟩) ?_ ?_
    rotate_left
    · intro w'
      go_simp
      with_reducible rfl
    rotate_left
    · simp only [Act.put, List.setIfInBounds_toArray, List.set_cons_zero, List.set_cons_succ]
      rfl
    refine pure_ (i := 8) (N := some 4) (v := ?_) (a' := ?_) #[true, true, true, true, true, true, true, true, true] rfl rfl (by kernel_rfl) (fun _ _ _ h => h) (Or.inl ⟨by rfl, ?_⟩) ?_ ?_
    rotate_left
    · intro w'
      go_simp
      with_reducible rfl
    rotate_left
    · simp only [Act.put, List.setIfInBounds_toArray, List.set_cons_zero, List.set_cons_succ]
      rfl
    refine done_ (by kernel_rfl) ?_
    go_wp2_with fail
    refine bodyPost_ret (results_ctt rfl _ _ w.heap.size 23 #[.string (B k), .string (B v)] (0, 0) _ rfl (setCells2 HR.out) Tryd.underlying23 rfl (by kernel_rfl)) rfl ?_
    exact ⟨by rw [HRES.out]; show _ = Ending.returned (.tuple #[.agg #[.string (B k), .string (B v)], .string (B (r2.drop 32)), .int .i64 0]); rw [← drop32]; rfl, (HB.out.setCell (p := ⟨w.heap.size, 0, none⟩) (Nat.le_refl _) _).setCell (p := ⟨w.heap.size, 1, none⟩) (Nat.le_refl _) _⟩
def sluicegateref08_Read.f (a0 : ByteArray) : Option (ByteArray × ByteArray × ByteArray × Int) := if a0.size ≤ 17592186044416 then some (B (rdN a0.data.toList).1, B (rdN a0.data.toList).2.1, B (rdN a0.data.toList).2.2.1, (rdN a0.data.toList).2.2.2) else none
theorem sluicegateref08_Read.calls (a0 r1 r2 r3 : ByteArray) (r4 : Int) (w : World) (h : sluicegateref08_Read.f a0 = some (r1, r2, r3, r4)) :
    Calls Tryd.prog 16 #[.string a0] w fun e w' => e = .returned (.tuple #[.agg #[.string r1, .string r2], .string r3, .int .i64 r4]) ∧ Below w.heap.size w w' := by
  unfold sluicegateref08_Read.f at h
  split at h
  · rename_i hs
    have e := Option.some.inj h
    simp only [Prod.mk.injEq] at e
    obtain ⟨rfl, rfl, rfl, rfl⟩ := e
    have := rneed_calls a0.data.toList (by rw [size_data]; exact hs) w
    rw [B_eta] at this
    exact this
  · cases h
end Go.Proofs.YtpgfafpjfdbjmaaDoor
end
