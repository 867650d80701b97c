/- Lemmas for the law NeedleApart, merged out of several texts and cut down to what it names, by a program of this session (some of the first ones are of the words that print.sh wrote for this claim). -/
import Derived.Lib.ConvBytes
import Derived.Test.YtpgfafpjfdbjmaaDoorKNeedleApart1
import Derived.Test.YtpgfafpjfdbjmaaDoorKNeedleApart2
import Derived.Test.YtpgfafpjfdbjmaaDoorKNeedleApart3
set_option linter.unusedVariables false
set_option linter.unusedSimpArgs false
section
namespace Go.Proofs.YtpgfafpjfdbjmaaDoor
open Go.RowKit Q Go.Proofs.YtpgfafpjfdbjmaaDoorW.PrintWords Go.Proofs.YtpgfafpjfdbjmaaDoorW.PrintLast Go.Proofs.YtpgfafpjfdbjmaaDoorW.PrintMore
attribute [local go_sem] Oper.semAt_some
def itA (x : It) : Array Value := #[.string (B x.k), .string (B x.v), .int .i64 x.at_, .int .i64 x.e]
theorem ninfoI : (Tryd.prog.info? 3).map (fun i => (i.zero, i.size, i.bytes)) = some (some (.int .i64 0), 1, 8) := by kernel_rfl
theorem ninfoN : (Tryd.prog.info? 28).map (fun i => (i.zero, i.size, i.bytes)) = some (some (.agg #[(.string ⟨#[]⟩), (.string ⟨#[]⟩)]), 2, 32) := by kernel_rfl
structure Na (R1 R2 R3 BL BM Bs : Nat) (s : List UInt8) (w0 : World) (u1 u2 v1 v2 r1 r2 r3 : Value) (L : List S28) (AT : List Int) (W : World) : Prop where
  c1 : Boxed W R1 38 r1
  c2 : Boxed W R2 39 r2
  c3 : Boxed W R3 25 r3
  b1 : Boxed W BL 38 u1
  b2 : Boxed W BM 39 u2
  bs : Boxed W Bs 9 (.string (B s))
  o1 : Kd.R k28 28 W w0.heap.size (fun k => w0.heap.size ≤ k) v1 L
  o2 : Kd.R (Kd.int .i64) 3 W w0.heap.size (fun k => w0.heap.size ≤ k) v2 AT
  bw : Below w0.heap.size w0 W
  n1L : R1 ≠ BL
  n2M : R2 ≠ BM
  nLM : BL ≠ BM
  n12 : R1 ≠ R2
  n13 : R1 ≠ R3
  n23 : R2 ≠ R3
  g1 : w0.heap.size ≤ R1
  g2 : w0.heap.size ≤ R2
  g3 : w0.heap.size ≤ R3
  gL : w0.heap.size ≤ BL
  gM : w0.heap.size ≤ BM
section
variable {R1 R2 R3 BL BM Bs : Nat} {s : List UInt8} {w0 W W1 : World} {u1 u2 v1 v2 r1 r2 r3 : Value} {L : List S28} {AT : List Int}
theorem Na.below (h : Na R1 R2 R3 BL BM Bs s w0 u1 u2 v1 v2 r1 r2 r3 L AT W) (b : Below W.heap.size W W1) : Na R1 R2 R3 BL BM Bs s w0 u1 u2 v1 v2 r1 r2 r3 L AT W1 :=
  have hg := ngrown_below b none
  { h with
    c1 := h.c1.kept hg (by simp)
    c2 := h.c2.kept hg (by simp)
    c3 := h.c3.kept hg (by simp)
    b1 := h.b1.kept hg (by simp)
    b2 := h.b2.kept hg (by simp)
    bs := h.bs.kept hg (by simp)
    o1 := Kd.R_below h.o1 b
    o2 := Kd.R_below h.o2 b
    bw := below2 h.bw h.bw.size b }
theorem Na.calm (h : Na R1 R2 R3 BL BM Bs s w0 u1 u2 v1 v2 r1 r2 r3 L AT W) {row : Option Nat} (hg : W.grownBy W1 row) (hr : ∀ r, row = some r → w0.heap.size ≤ r ∧ ∃ o : Obj, W.heap[r]? = some o ∧ o.isCells = false) : Na R1 R2 R3 BL BM Bs s w0 u1 u2 v1 v2 r1 r2 r3 L AT W1 :=
  have hr2 := fun r e => (hr r e).2
  { h with
    c1 := nblk_calm h.c1 hg hr2
    c2 := nblk_calm h.c2 hg hr2
    c3 := nblk_calm h.c3 hg hr2
    b1 := nblk_calm h.b1 hg hr2
    b2 := nblk_calm h.b2 hg hr2
    bs := nblk_calm h.bs hg hr2
    o1 := nR_calm h.o1 hg hr2
    o2 := nR_calm h.o2 hg hr2
    bw := h.bw.grown hg h.bw.size (fun k e => (hr k e).1) }
theorem Na.app1 (h : Na R1 R2 R3 BL BM Bs s w0 u1 u2 v1 v2 r1 r2 r3 L AT W) {y : Value} {x : S28} (hR : Kd.R k28 28 W1 w0.heap.size (fun k => w0.heap.size ≤ k) y (L ++ [x])) (hg : W.grownBy W1 v1.ownBlock) : Na R1 R2 R3 BL BM Bs s w0 u1 u2 y v2 r1 r2 r3 (L ++ [x]) AT W1 :=
  have hr : ∀ k, v1.ownBlock = some k → ∃ cells, W.heap[k]? = some (.cells cells 28 (0, 0)) := fun k e => Kd.R_typed h.o1 k e
  { h with
    c1 := nbox_step h.c1 hg _ hr (by decide)
    c2 := nbox_step h.c2 hg _ hr (by decide)
    c3 := nbox_step h.c3 hg _ hr (by decide)
    b1 := nbox_step h.b1 hg _ hr (by decide)
    b2 := nbox_step h.b2 hg _ hr (by decide)
    bs := nbox_step h.bs hg _ hr (by decide)
    o1 := hR
    o2 := nR_step h.o2 hg _ hr (fun q hq => by rcases List.mem_cons.1 hq with rfl | hq; decide; cases hq)
    bw := h.bw.grown hg h.bw.size (fun k e => h.o1.1 k e) }
theorem Na.app2 (h : Na R1 R2 R3 BL BM Bs s w0 u1 u2 v1 v2 r1 r2 r3 L AT W) {y : Value} {x : Int} (hR : Kd.R (Kd.int .i64) 3 W1 w0.heap.size (fun k => w0.heap.size ≤ k) y (AT ++ [x])) (hg : W.grownBy W1 v2.ownBlock) : Na R1 R2 R3 BL BM Bs s w0 u1 u2 v1 y r1 r2 r3 L (AT ++ [x]) W1 :=
  have hr : ∀ k, v2.ownBlock = some k → ∃ cells, W.heap[k]? = some (.cells cells 3 (0, 0)) := fun k e => Kd.R_typed h.o2 k e
  { h with
    c1 := nbox_step h.c1 hg _ hr (by decide)
    c2 := nbox_step h.c2 hg _ hr (by decide)
    c3 := nbox_step h.c3 hg _ hr (by decide)
    b1 := nbox_step h.b1 hg _ hr (by decide)
    b2 := nbox_step h.b2 hg _ hr (by decide)
    bs := nbox_step h.bs hg _ hr (by decide)
    o1 := nR_step h.o1 hg _ hr (fun q hq => by rcases List.mem_cons.1 hq with rfl | hq; decide; exact absurd hq (by simp [k28, Kd.iso, Kd.pair, Kd.string, Kd.scalar]))
    o2 := hR
    bw := h.bw.grown hg h.bw.size (fun k e => h.o2.1 k e) }
theorem Na.put (h : Na R1 R2 R3 BL BM Bs s w0 u1 u2 v1 v2 r1 r2 r3 L AT W) (x1 x2 : Value) : Na R1 R2 R3 BL BM Bs s w0 x1 x2 v1 v2 r1 r2 r3 L AT ((W.setCell ⟨BL, 0, none⟩ x1).setCell ⟨BM, 0, none⟩ x2) := by
  have g1 := ngrown_set W BL 0 x1
  have g2 := ngrown_set (W.setCell ⟨BL, 0, none⟩ x1) BM 0 x2
  have r1 : ∀ k, some BL = some k → ∃ cells, W.heap[k]? = some (.cells cells 38 (0, 0)) := fun k e => by injection e with e; subst e; exact ⟨_, h.b1⟩
  have hb2 : Boxed (W.setCell ⟨BL, 0, none⟩ x1) BM 39 u2 := nbox_step h.b2 g1 _ r1 (by decide)
  have r2 : ∀ k, some BM = some k → ∃ cells, (W.setCell ⟨BL, 0, none⟩ x1).heap[k]? = some (.cells cells 39 (0, 0)) := fun k e => by injection e with e; subst e; exact ⟨_, hb2⟩
  exact
  { h with
    c1 := nbox_step (h.c1.kept g1 (fun e => h.n1L (by injection e))) g2 _ r2 (by decide)
    c2 := (nbox_step h.c2 g1 _ r1 (by decide)).kept g2 (fun e => h.n2M (by injection e))
    c3 := nbox_step (nbox_step h.c3 g1 _ r1 (by decide)) g2 _ r2 (by decide)
    b1 := nbox_step (h.b1.set x1) g2 _ r2 (by decide)
    b2 := hb2.set x2
    bs := nbox_step (nbox_step h.bs g1 _ r1 (by decide)) g2 _ r2 (by decide)
    o1 := nR_step (nR_step h.o1 g1 _ r1 (fun q hq => by rcases List.mem_cons.1 hq with rfl | hq; decide; exact absurd hq (by simp [k28, Kd.iso, Kd.pair, Kd.string, Kd.scalar]))) g2 _ r2 (fun q hq => by rcases List.mem_cons.1 hq with rfl | hq; decide; exact absurd hq (by simp [k28, Kd.iso, Kd.pair, Kd.string, Kd.scalar]))
    o2 := nR_step (nR_step h.o2 g1 _ r1 (fun q hq => by rcases List.mem_cons.1 hq with rfl | hq; decide; cases hq)) g2 _ r2 (fun q hq => by rcases List.mem_cons.1 hq with rfl | hq; decide; cases hq)
    bw := (h.bw.setCell (p := ⟨BL, 0, none⟩) h.gL _).setCell (p := ⟨BM, 0, none⟩) h.gM _ }
theorem Na.ret (h : Na R1 R2 R3 BL BM Bs s w0 u1 u2 v1 v2 r1 r2 r3 L AT W) (x1 x2 x3 : Value) : Na R1 R2 R3 BL BM Bs s w0 u1 u2 v1 v2 x1 x2 x3 L AT (((W.setCell ⟨R1, 0, none⟩ x1).setCell ⟨R2, 0, none⟩ x2).setCell ⟨R3, 0, none⟩ x3) := by
  have g1 := ngrown_set W R1 0 x1
  have g2 := ngrown_set (W.setCell ⟨R1, 0, none⟩ x1) R2 0 x2
  have g3 := ngrown_set ((W.setCell ⟨R1, 0, none⟩ x1).setCell ⟨R2, 0, none⟩ x2) R3 0 x3
  have q1 : ∀ k, some R1 = some k → ∃ cells, W.heap[k]? = some (.cells cells 38 (0, 0)) := fun k e => by injection e with e; subst e; exact ⟨_, h.c1⟩
  have hc2 : Boxed (W.setCell ⟨R1, 0, none⟩ x1) R2 39 r2 := nbox_step h.c2 g1 _ q1 (by decide)
  have q2 : ∀ k, some R2 = some k → ∃ cells, (W.setCell ⟨R1, 0, none⟩ x1).heap[k]? = some (.cells cells 39 (0, 0)) := fun k e => by injection e with e; subst e; exact ⟨_, hc2⟩
  have hc3 : Boxed ((W.setCell ⟨R1, 0, none⟩ x1).setCell ⟨R2, 0, none⟩ x2) R3 25 r3 := nbox_step (nbox_step h.c3 g1 _ q1 (by decide)) g2 _ q2 (by decide)
  have q3 : ∀ k, some R3 = some k → ∃ cells, ((W.setCell ⟨R1, 0, none⟩ x1).setCell ⟨R2, 0, none⟩ x2).heap[k]? = some (.cells cells 25 (0, 0)) := fun k e => by injection e with e; subst e; exact ⟨_, hc3⟩
  have hE : ∀ q, q ∈ 28 :: k28.E → q = 28 := fun q hq => by rcases List.mem_cons.1 hq with rfl | hq; rfl; exact absurd hq (by simp [k28, Kd.iso, Kd.pair, Kd.string, Kd.scalar])
  have hI : ∀ q, q ∈ 3 :: (Kd.int .i64).E → q = 3 := fun q hq => by rcases List.mem_cons.1 hq with rfl | hq; rfl; cases hq
  exact
  { h with
    c1 := nbox_step (nbox_step (h.c1.set x1) g2 _ q2 (by decide)) g3 _ q3 (by decide)
    c2 := nbox_step (hc2.set x2) g3 _ q3 (by decide)
    c3 := hc3.set x3
    b1 := nbox_step (nbox_step (h.b1.kept g1 (fun e => h.n1L (by injection e with e; exact e.symm))) g2 _ q2 (by decide)) g3 _ q3 (by decide)
    b2 := nbox_step ((nbox_step h.b2 g1 _ q1 (by decide)).kept g2 (fun e => h.n2M (by injection e with e; exact e.symm))) g3 _ q3 (by decide)
    bs := nbox_step (nbox_step (nbox_step h.bs g1 _ q1 (by decide)) g2 _ q2 (by decide)) g3 _ q3 (by decide)
    o1 := nR_step (nR_step (nR_step h.o1 g1 _ q1 (fun q hq => by rw [hE q hq]; decide)) g2 _ q2 (fun q hq => by rw [hE q hq]; decide)) g3 _ q3 (fun q hq => by rw [hE q hq]; decide)
    o2 := nR_step (nR_step (nR_step h.o2 g1 _ q1 (fun q hq => by rw [hI q hq]; decide)) g2 _ q2 (fun q hq => by rw [hI q hq]; decide)) g3 _ q3 (fun q hq => by rw [hI q hq]; decide)
    bw := ((h.bw.setCell (p := ⟨R1, 0, none⟩) h.g1 _).setCell (p := ⟨R2, 0, none⟩) h.g2 _).setCell (p := ⟨R3, 0, none⟩) h.g3 _ }
end
theorem nblk_ne {W : World} {g g' : Nat} {c c' : Array Value} {T T' : TypeId} (h : Blk W g c T) (h' : Blk W g' c' T') (ht : T ≠ T') : g ≠ g' := fun e => by
  subst e
  have h2 : W.heap[g]? = some (.cells c' T' (0, 0)) := h'
  rw [show W.heap[g]? = some (.cells c T (0, 0)) from h] at h2
  injection h2 with h2
  injection h2 with _ h2
  exact ht h2
theorem nblk_new {R1 R2 R3 BL BM Bs : Nat} {s : List UInt8} {w0 W : World} {u1 u2 v1 v2 r1 r2 r3 : Value} {L : List S28} {AT : List Int} (_ : Na R1 R2 R3 BL BM Bs s w0 u1 u2 v1 v2 r1 r2 r3 L AT W) (c : Array Value) (T : TypeId) : Blk (W.alloc (.cells c T)) W.heap.size c T := Blk.new W c T
theorem Na.start (s : List UInt8) (w : World) : Na w.heap.size (w.heap.size + 1) (w.heap.size + 1 + 1) (w.heap.size + 1 + 1 + 1) (w.heap.size + 1 + 1 + 1 + 1) (w.heap.size + 1 + 1 + 1 + 1 + 1) s w (.slice none 0 0) (.slice none 0 0) (.slice none 0 0) (.slice none 0 0) (.slice none 0 0) (.slice none 0 0) (.int .i64 0) [] [] ((((((w.alloc (.cells #[.slice none 0 0] 38)).alloc (.cells #[.slice none 0 0] 39)).alloc (.cells #[.int .i64 0] 25)).alloc (.cells #[.slice none 0 0] 38)).alloc (.cells #[.slice none 0 0] 39)).alloc (.cells #[.string (B s)] 9)) := by
  have e1 : (w.alloc (.cells #[.slice none 0 0] 38)).heap.size = w.heap.size + 1 := by simp
  have x1 := Boxed.new w 38 (.slice none 0 0)
  have x2 := Boxed.new (w.alloc (.cells #[.slice none 0 0] 38)) 39 (.slice none 0 0)
  have x3 := Boxed.new ((w.alloc (.cells #[.slice none 0 0] 38)).alloc (.cells #[.slice none 0 0] 39)) 25 (.int .i64 0)
  have x4 := Boxed.new (((w.alloc (.cells #[.slice none 0 0] 38)).alloc (.cells #[.slice none 0 0] 39)).alloc (.cells #[.int .i64 0] 25)) 38 (.slice none 0 0)
  have x5 := Boxed.new ((((w.alloc (.cells #[.slice none 0 0] 38)).alloc (.cells #[.slice none 0 0] 39)).alloc (.cells #[.int .i64 0] 25)).alloc (.cells #[.slice none 0 0] 38)) 39 (.slice none 0 0)
  have x6 := Boxed.new (((((w.alloc (.cells #[.slice none 0 0] 38)).alloc (.cells #[.slice none 0 0] 39)).alloc (.cells #[.int .i64 0] 25)).alloc (.cells #[.slice none 0 0] 38)).alloc (.cells #[.slice none 0 0] 39)) 9 (.string (B s))
  simp only [World.size_alloc] at x2 x3 x4 x5 x6
  exact ⟨((((x1.alloc _).alloc _).alloc _).alloc _).alloc _, (((x2.alloc _).alloc _).alloc _).alloc _, ((x3.alloc _).alloc _).alloc _, (x4.alloc _).alloc _, x5.alloc _, x6, Kd.R_nil _ _ _ _ _, Kd.R_nil _ _ _ _ _, below_alloc (below_alloc (below_alloc (below_alloc (below_alloc (below_alloc (Below.refl _ w) _) _) _) _) _) _, by omega, by omega, by omega, by omega, by omega, by omega, by omega, by omega, by omega, by omega, by omega⟩
theorem needles_calls (s : ByteArray) (w : World) (n : Nat) : CallsIn Fence.wide n Tryd.prog 41 #[.string s] w fun e w' => e = .returned (.func (.func 59) #[] #[.pointer (some ⟨w.heap.size, 0, none⟩)]) ∧ w' = w.alloc (.cells #[.string s] 9) := by
  refine callsIn_of_wp Tryd.func41 rfl trivial ?_ rfl
  simp only [Tryd.ntmps41, List.size_toArray, List.length_cons, List.length_nil, Nat.reduceAdd, Nat.reduceSub, Array.replicate_succ, Array.replicate_zero, List.push_toArray, List.append_toArray, List.nil_append, List.cons_append]
  gi_wp2
  go_ret
  exact ⟨rfl, rfl⟩
def nd (x : It) : S28 := ⟨B x.k, B x.v⟩
def ndP (p : List UInt8 × List UInt8) : S28 := ⟨B p.1, B p.2⟩
set_option maxRecDepth 100000 in
set_option maxHeartbeats 4000000 in
theorem nall_calls (s : List UInt8) (hs : s.length ≤ 1048576) (w : World) : Calls Tryd.prog 17 #[.string (B s)] w fun e w' => ∃ y1 y2 : Value, e = .returned (.tuple #[y1, y2, .int .i64 (allN s.length [] [] s).2.2]) ∧ Kd.R k28 28 w' w.heap.size (fun _ => True) y1 ((allN s.length [] [] s).1.map ndP) ∧ Kd.R (Kd.int .i64) 3 w' w.heap.size (fun _ => True) y2 (allN s.length [] [] s).2.1 ∧ Below w.heap.size w w' := by
  refine (callsIn_wide (n := 5)).1 ?_
  refine callsIn_of_wp_marks Tryd.func17 rfl trivial ?_ rfl
  simp only [Tryd.ntmps17, List.size_toArray, List.length_cons, List.length_nil, Nat.reduceAdd, Nat.reduceSub, Array.replicate_succ, Array.replicate_zero, List.push_toArray, List.append_toArray, List.nil_append, List.cons_append]
  have hF : Fence.wide.fn 41 := trivial
  gi_wp2_with (gi_at_call 41; refine (needles_calls _ _ _).mono ?_; rintro e w' ⟨rfl, rfl⟩)
  have G := Na.start s w
  generalize (((((w.alloc (.cells #[.slice none 0 0] 38)).alloc (.cells #[.slice none 0 0] 39)).alloc (.cells #[.int .i64 0] 25)).alloc (.cells #[.slice none 0 0] 38)).alloc (.cells #[.slice none 0 0] 39)).alloc (.cells #[.string (B s)] 9) = W0 at G ⊢
  have hn0 : w.heap.size ≤ W0.heap.size := G.bw.size
  have hnE : W0.heap.size ≤ W0.heap.size := Nat.le_refl _
  generalize w.heap.size + 1 + 1 + 1 + 1 + 1 = Bs at G ⊢
  generalize w.heap.size + 1 + 1 + 1 + 1 = BM at G ⊢
  generalize w.heap.size + 1 + 1 + 1 = BL at G ⊢
  generalize w.heap.size + 1 + 1 = R3 at G ⊢
  generalize w.heap.size + 1 = R2 at G ⊢
  have hb1 := G.c1.lt
  have hb2 := G.c2.lt
  have hb3 := G.c3.lt
  refine wpIn_range_stops rfl (by decide) (gf := 59) (lb := #[.pointer (some ⟨Bs, 0, none⟩)]) rfl trivial (enters_of Tryd.func59 (by kernel_rfl) rfl) (encs := fun x : It => #[itV x]) (fun _ _ => True) (fun x => x.e ≠ 0) (fun ys => allN s.length [] [] s = (ys.map (fun x => (x.k, x.v)), ys.map (fun x => x.at_), 0)) (fun ys => ∃ pre x, ys = pre ++ [x] ∧ allN s.length [] [] s = ([], [], x.e)) (s.length + 1) w.heap.size (fun W => W.cell? ⟨Bs, 0, none⟩ = some (.string (B s))) hn0 (fun _ => rfl) ?seq (fun pre W => ∃ v1 v2, Na w.heap.size R2 R3 BL BM Bs s w v1 v2 v1 v2 (.slice none 0 0) (.slice none 0 0) (.int .i64 0) (pre.map nd) (pre.map (fun x => x.at_)) W) (fun ys W => ∃ pre x u1 u2 v1 v2 L AT, ys = pre ++ [x] ∧ Na w.heap.size R2 R3 BL BM Bs s w u1 u2 v1 v2 (.slice none 0 0) (.slice none 0 0) (.int .i64 x.e) L AT W) ?own ?ownx ?bx ⟨_, _, G⟩ (fun pre x a' W => ∃ Bx v1 v2, pre.length < s.length + 1 ∧ a' = { tmps := #[.string (B s), undef, .pointer (some ⟨w.heap.size, 0, none⟩), .pointer (some ⟨R2, 0, none⟩), .pointer (some ⟨R3, 0, none⟩), .pointer (some ⟨BL, 0, none⟩), .pointer (some ⟨BM, 0, none⟩), .pointer (some ⟨Bx, 0, none⟩), .string (B s), .func (.func 59) #[] #[.pointer (some ⟨Bs, 0, none⟩)], itV x, undef, undef, undef, undef, undef, undef, undef, undef, undef, undef, undef, undef, undef, undef, undef, undef, undef], defers := [] } ∧ Blk W Bx (itA x) 75 ∧ Na w.heap.size R2 R3 BL BM Bs s w v1 v2 v1 v2 (.slice none 0 0) (.slice none 0 0) (.int .i64 0) (pre.map nd) (pre.map (fun x => x.at_)) W) ?ax ?assign ?body ?done ?left
  case seq =>
    intro lq J Jx W hW hJ hJx hBx hY h0
    exact needles_in _ (by decide) lq Bs s hs w J Jx hJ hBx hY W (below2 G.bw hn0 hW) h0
  case own =>
    rintro pre X Y row ⟨v1, v2, h⟩ hg hr
    exact ⟨v1, v2, h.calm hg (fun r e => ⟨Nat.le_trans hn0 (hr r e).1, (hr r e).2⟩)⟩
  case ownx =>
    rintro ys X Y row ⟨pre, x, u1, u2, v1, v2, L, AT, e, h⟩ hg hr
    exact ⟨pre, x, u1, u2, v1, v2, L, AT, e, h.calm hg (fun r e => ⟨Nat.le_trans hn0 (hr r e).1, (hr r e).2⟩)⟩
  case bx =>
    rintro ys X ⟨v1, v2, h⟩
    exact h.bs.cell
  case ax =>
    rintro pre x a' _ X Y row ⟨Bx, v1, v2, h2, h3, h4, h5⟩ hg hr
    exact ⟨Bx, v1, v2, h2, h3, nblk_calm h4 hg (fun r e => (hr r e).2), h5.calm hg (fun r e => ⟨Nat.le_trans hn0 (hr r e).1, (hr r e).2⟩)⟩
  case assign =>
    rintro lq pre x W K ⟨v1, v2, HG⟩ hv hN hK
    dsimp only [itV]
    gi_wp2
    have hb := below_alloc (Below.refl _ W) (.cells (itA x) 75)
    exact hK _ _ (nkeeps_below hb) (hb.mono HG.bw.size) ⟨W.heap.size, v1, v2, hN, rfl, Blk.new _ _ _, HG.below hb⟩
  case body =>
    rintro lq pre x a' W ⟨Bx, v1, v2, hpl, rfl, HX, HG⟩
    have hx1 := nblk_ne HX HG.c1 (by decide)
    have hx2 := nblk_ne HX HG.c2 (by decide)
    have cX := HX.cell (i := 3) (v := .int .i64 x.e) rfl
    have HG0 := HG.below (Below.drew (Below.refl _ _))
    have HX0 := HX.keep (Below.drew (Below.refl _ _))
    have HK0 : KeepsFrom W0.heap.size W W.drew := nkeeps_below (Below.drew (Below.refl _ _))
    have HB := HG.bw
    by_cases he : x.e = 0
    case neg =>
      have he2 : (x.e != 0) = true := bne_iff_ne.mpr he
      dsimp only [itV]
      gi_wp2
      refine startIn_ (m := 5) (by kernel_rfl) (by rintro ⟨_, _, _, _, (⟨h1, _⟩ | ⟨h1, _⟩)⟩ <;> cases h1) (S := fun w' => w'.cell? ⟨Bx, 3, none⟩ = some (.int .i64 x.e)) (ds := [4]) #[false, false, false, false, false] (by kernel_rfl) rfl rfl (cX) (fun hHeld => ?_)
      generalize W.drew = Wd at HG0 HX0 HK0 hHeld ⊢
      have hs1 := HG0.c1.cell
      have hf1 := HG0.c1.frozen
      have hs2 := (HG0.c2.other (B' := w.heap.size) (Ne.symm HG0.n12) (.slice none 0 0)).cell
      have hf2 := (HG0.c2.other (B' := w.heap.size) (Ne.symm HG0.n12) (.slice none 0 0)).frozen
      have hs3 := ((HG0.c3.other (B' := w.heap.size) (Ne.symm HG0.n13) (.slice none 0 0)).other (B' := R2) (Ne.symm HG0.n23) (.slice none 0 0)).cell
      have hf3 := ((HG0.c3.other (B' := w.heap.size) (Ne.symm HG0.n13) (.slice none 0 0)).other (B' := R2) (Ne.symm HG0.n23) (.slice none 0 0)).frozen
      refine pure_ (i := 0) (N := some 14) (v := ?_) (a' := ?_) #[true, false, false, false, false] rfl rfl (by kernel_rfl) (fun _ _ _ h => h) (Or.inl ⟨by rfl, ?_⟩) ?_ ?_
      rotate_left
      · intro w'
        go_simp
        with_reducible rfl
      rotate_left
      · simp only [Act.put, List.setIfInBounds_toArray, List.set_cons_zero, List.set_cons_succ]
        rfl
      refine take_ (i := 1) (N := some 15) (v := ?_) (a' := ?_) #[true, true, false, false, false] rfl rfl (by kernel_rfl) (fun _ _ _ h => h) (Or.inl ⟨by rfl, ?_⟩) hHeld ?_ ?_
      rotate_left
      · intro w' s0
        go_simp
        with_reducible rfl
      rotate_left
      · simp only [Act.put, List.setIfInBounds_toArray, List.set_cons_zero, List.set_cons_succ]
        rfl
      refine one_ (i := 2) (N := none) #[true, true, true, false, false] rfl rfl (by kernel_rfl) (by decide) (fun K hK => ?_)
      refine skip_ (w1 := ?_) (by rfl) rfl ?_ ?_
      rotate_left
      · go_simp
        rfl
      refine hK.out _ _ (((cell_far (p := ⟨w.heap.size, _, none⟩) hx1 _).trans hHeld)) (fun hHeld => ?_)
      clear hK K
      refine one_ (i := 3) (N := none) #[true, true, true, true, false] rfl rfl (by kernel_rfl) (by decide) (fun K hK => ?_)
      refine skip_ (w1 := ?_) (by rfl) rfl ?_ ?_
      rotate_left
      · go_simp
        rfl
      refine hK.out _ _ (((cell_far (p := ⟨R2, _, none⟩) hx2 _).trans hHeld)) (fun hHeld => ?_)
      clear hK K
      refine last_ (i := 4) (N := none) #[true, true, true, true, true] rfl rfl (by kernel_rfl) (by decide) (fun K hK => ?_)
      refine skip_ (w1 := ?_) (by rfl) rfl ?_ ?_
      rotate_left
      · go_simp
        rfl
      refine hK.out _ _ ?_
      clear hK K
      refine done_ (by kernel_rfl) ?_
      gi_wp2
      have hfin := HG0.ret (.slice none 0 0) (.slice none 0 0) (.int .i64 x.e)
      have bk := HK0.trans ((((KeepsOthers.setCell Wd ⟨w.heap.size, 0, none⟩ (.slice none 0 0)).from W0.heap.size).trans ((KeepsOthers.setCell (Wd.setCell ⟨w.heap.size, 0, none⟩ (.slice none 0 0)) ⟨R2, 0, none⟩ (.slice none 0 0)).from W0.heap.size)).trans ((KeepsOthers.setCell ((Wd.setCell ⟨w.heap.size, 0, none⟩ (.slice none 0 0)).setCell ⟨R2, 0, none⟩ (.slice none 0 0)) ⟨R3, 0, none⟩ (.int .i64 x.e)).from W0.heap.size))
      exact ⟨bk, nbelow_between HB hfin.bw bk.size, pre, x, ⟨rfl, rfl⟩, _, _, _, _, _, _, hfin⟩
    case pos =>
      have he2 : (x.e != 0) = false := bne_eq_false_iff_eq.mpr he
      have HLN : Hid ((pre.map nd).length ≤ 1048576) := Lib.hid (by rw [List.length_map]; omega)
      have HLA : Hid ((pre.map (fun x => x.at_)).length ≤ 1048576) := Lib.hid (by rw [List.length_map]; omega)
      obtain ⟨L, hL⟩ : ∃ L, pre.map nd = L := ⟨_, rfl⟩
      obtain ⟨AT, hAT⟩ : ∃ AT, pre.map (fun x => x.at_) = AT := ⟨_, rfl⟩
      rw [hL] at HLN HG HG0
      rw [hAT] at HLA HG HG0
      replace hL := Lib.hid hL
      replace hAT := Lib.hid hAT
      dsimp only [itV]
      gi_wp2
      refine startIn_ (m := 12) (by kernel_rfl) (by rintro ⟨_, _, _, _, (⟨h1, _⟩ | ⟨h1, _⟩)⟩ <;> cases h1) (S := fun w' => w'.cell? ⟨BL, 0, none⟩ = some v1 ∧ w'.cell? ⟨Bx, 0, none⟩ = some (.string (B x.k)) ∧ w'.cell? ⟨Bx, 1, none⟩ = some (.string (B x.v)) ∧ w'.cell? ⟨Bx, 2, none⟩ = some (.int .i64 x.at_) ∧ w'.cell? ⟨BM, 0, none⟩ = some v2) (ds := [10, 11]) #[false, false, false, false, false, false, false, false, false, false, false, false] (by kernel_rfl) rfl rfl ⟨HG0.b1.cell, (HX0.cell (i := 0) (v := .string (B x.k)) rfl), (HX0.cell (i := 1) (v := .string (B x.v)) rfl), (HX0.cell (i := 2) (v := .int .i64 x.at_) rfl), HG0.b2.cell⟩ (fun hHeld => ?_)
      generalize W.drew = Wd at HG0 HX0 HK0 hHeld ⊢
      refine pure_ (i := 1) (N := some 17) (v := ?_) (a' := ?_) #[false, true, false, false, false, false, false, false, false, false, false, false] rfl rfl (by kernel_rfl) (fun _ _ _ h => h) (Or.inl ⟨by rfl, ?_⟩) ?_ ?_
      rotate_left
      · intro w'
        go_simp
        with_reducible rfl
      rotate_left
      · simp only [Act.put, List.setIfInBounds_toArray, List.set_cons_zero, List.set_cons_succ]
        rfl
      refine pure_ (i := 6) (N := some 22) (v := ?_) (a' := ?_) #[false, true, false, false, false, false, true, false, false, false, false, false] rfl rfl (by kernel_rfl) (fun _ _ _ h => h) (Or.inl ⟨by rfl, ?_⟩) ?_ ?_
      rotate_left
      · intro w'
        go_simp
        with_reducible rfl
      rotate_left
      · simp only [Act.put, List.setIfInBounds_toArray, List.set_cons_zero, List.set_cons_succ]
        rfl
      refine take_ (i := 0) (N := some 16) (v := ?_) (a' := ?_) #[true, true, false, false, false, false, true, false, false, false, false, false] rfl rfl (by kernel_rfl) (fun _ _ _ h => h) (Or.inl ⟨by rfl, ?_⟩) hHeld ?_ ?_
      rotate_left
      · rintro w' ⟨s0, s1, s2, s3, s4⟩
        go_simp
        with_reducible rfl
      rotate_left
      · simp only [Act.put, List.setIfInBounds_toArray, List.set_cons_zero, List.set_cons_succ]
        rfl
      refine take_ (i := 2) (N := some 18) (v := ?_) (a' := ?_) #[true, true, true, false, false, false, true, false, false, false, false, false] rfl rfl (by kernel_rfl) (fun _ _ _ h => h) (Or.inl ⟨by rfl, ?_⟩) hHeld ?_ ?_
      rotate_left
      · rintro w' ⟨s0, s1, s2, s3, s4⟩
        go_simp
        with_reducible rfl
      rotate_left
      · simp only [Act.put, List.setIfInBounds_toArray, List.set_cons_zero, List.set_cons_succ]
        rfl
      refine take_ (i := 5) (N := some 21) (v := ?_) (a' := ?_) #[true, true, true, false, false, true, true, false, false, false, false, false] rfl rfl (by kernel_rfl) (fun _ _ _ h => h) (Or.inl ⟨by rfl, ?_⟩) hHeld ?_ ?_
      rotate_left
      · rintro w' ⟨s0, s1, s2, s3, s4⟩
        go_simp
        with_reducible rfl
      rotate_left
      · simp only [Act.put, List.setIfInBounds_toArray, List.set_cons_zero, List.set_cons_succ]
        rfl
      refine take_ (i := 7) (N := some 23) (v := ?_) (a' := ?_) #[true, true, true, false, false, true, true, true, false, false, false, false] rfl rfl (by kernel_rfl) (fun _ _ _ h => h) (Or.inl ⟨by rfl, ?_⟩) hHeld ?_ ?_
      rotate_left
      · rintro w' ⟨s0, s1, s2, s3, s4⟩
        go_simp
        with_reducible rfl
      rotate_left
      · simp only [Act.put, List.setIfInBounds_toArray, List.set_cons_zero, List.set_cons_succ]
        rfl
      refine join_ (σ := Nat × Nat × Option Addr × Nat × Nat) 3 #[true, true, true, true, true, true, true, true, true, false, false, false] (fun sg => [(19, .slice (some ⟨sg.1, 0, none⟩) 1 1), (20, .slice sg.2.2.1 sg.2.2.2.1 sg.2.2.2.2), (24, .slice (some ⟨sg.2.1, 0, none⟩) 1 1)]) (fun sg w' => Na w.heap.size R2 R3 BL BM Bs s w v1 v2 (.slice sg.2.2.1 sg.2.2.2.1 sg.2.2.2.2) v2 (.slice none 0 0) (.slice none 0 0) (.int .i64 0) (L ++ [(⟨B x.k, B x.v⟩ : S28)]) AT w' ∧ Blk w' Bx (itA x) 75 ∧ Blk w' sg.2.1 #[.int .i64 x.at_] 3 ∧ KeepsFrom W0.heap.size W w') ?_ ?_
      rotate_left
      · intro hCont
        refine two_ (i := 3) (j := 8) (Ni := some 19) (Nj := some 24) #[true, true, true, true, false, true, true, true, false, false, false, false] #[true, true, true, false, false, true, true, true, true, false, false, false] rfl rfl rfl rfl (by kernel_rfl) (by decide) (by decide) (fun K hK => ?_) (fun K hK => ?_)
        · skip
          refine value_ (w1 := ?_) (v := ?_) (by rfl) rfl ?_ ?_
          rotate_left 2
          · go_simp
            constructor
            · rfl
            · rfl
          have HG1 := HG0.below (below_alloc (Below.refl _ _) (.cells #[.string (B x.k), .string (B x.v)] 28))
          have HX1 := HX0.keep (below_alloc (Below.refl _ _) (.cells #[.string (B x.k), .string (B x.v)] 28))
          have HK1 := HK0.trans (nkeeps_below (below_alloc (Below.refl _ _) (.cells #[.string (B x.k), .string (B x.v)] 28)))
          have T3_1 := nblk_new HG0 #[.string (B x.k), .string (B x.v)] 28
          try simp only [World.size_alloc] at T3_1
          refine hK.out _ _ ⟨HG1.b1.cell, (HX1.cell (i := 0) (v := .string (B x.k)) rfl), (HX1.cell (i := 1) (v := .string (B x.v)) rfl), (HX1.cell (i := 2) (v := .int .i64 x.at_) rfl), HG1.b2.cell⟩ (fun hHeld => ?_)
          clear hK K
          refine norm_ (a' := ?_) ?_ ?_
          rotate_left
          · show Act.put _ (some 19) _ = _
            simp only [Act.put, List.setIfInBounds_toArray, List.set_cons_zero, List.set_cons_succ]
            rfl
          refine two_ (i := 4) (j := 8) (Ni := some 20) (Nj := some 24) #[true, true, true, true, true, true, true, true, false, false, false, false] #[true, true, true, true, false, true, true, true, true, false, false, false] rfl rfl rfl rfl (by kernel_rfl) (by decide) (by decide) (fun K hK => ?_) (fun K hK => ?_)
          · skip
            refine Kd.R_append_rows_step k28 (Rr := fun (y : S28) cs => cs = [.string y.f0, .string y.f1]) (w0 := w) w.heap.size (by rfl) (.tmp 16) (.tmp 19) 38 28 (.agg #[(.string ⟨#[]⟩), (.string ⟨#[]⟩)]) 32 rfl Tryd.underlying38 ninfoN rfl (by decide) (by omega) v1 L [(⟨B x.k, B x.v⟩ : S28)] (some ⟨_, 0, none⟩) 1 1 (fun j => w.heap.size ≤ j) (fun _ => False) rfl rfl HG1.o1 (nreads2 T3_1) (fun y cs e => by subst e; exact k28_mkM _ _ _ _) (fun _ hk => hk.elim) (fun j hj => Nat.le_trans HG1.bw.size hj) HG1.bw HG1.bw.size (by have := HLN.out; omega) ?_
            intro y1 w3 hR hB hg _
            obtain ⟨A1, n1, c1, rfl⟩ : ∃ A1 n1 c1, y1 = .slice A1 n1 c1 := by obtain ⟨A1, c1, e⟩ := Kd.R_slice hR; exact ⟨A1, _, c1, e⟩
            have hty := fun k e => Kd.R_typed HG1.o1 k e
            have HG2 := HG1.app1 hR hg
            have HX2 := nblk_step HX1 hg _ hty (by decide)
            have HK2 := HK1.trans (nkeeps_typed hg hty)
            refine hK.out _ _ ⟨HG2.b1.cell, (HX2.cell (i := 0) (v := .string (B x.k)) rfl), (HX2.cell (i := 1) (v := .string (B x.v)) rfl), (HX2.cell (i := 2) (v := .int .i64 x.at_) rfl), HG2.b2.cell⟩ (fun hHeld => ?_)
            clear hK K
            refine norm_ (a' := ?_) ?_ ?_
            rotate_left
            · show Act.put _ (some 20) _ = _
              simp only [Act.put, List.setIfInBounds_toArray, List.set_cons_zero, List.set_cons_succ]
              rfl
            refine one_ (i := 8) (N := some 24) #[true, true, true, true, true, true, true, true, true, false, false, false] rfl rfl (by kernel_rfl) (by decide) (fun K hK => ?_)
            refine value_ (w1 := ?_) (v := ?_) (by rfl) rfl ?_ ?_
            rotate_left 2
            · go_simp
              constructor
              · rfl
              · rfl
            have HG3 := HG2.below (below_alloc (Below.refl _ _) (.cells #[.int .i64 x.at_] 3))
            have HX3 := HX2.keep (below_alloc (Below.refl _ _) (.cells #[.int .i64 x.at_] 3))
            have HK3 := HK2.trans (nkeeps_below (below_alloc (Below.refl _ _) (.cells #[.int .i64 x.at_] 3)))
            have T8_3 := nblk_new HG2 #[.int .i64 x.at_] 3
            try simp only [World.size_alloc] at T8_3
            refine hK.out _ _ ⟨HG3.b1.cell, (HX3.cell (i := 0) (v := .string (B x.k)) rfl), (HX3.cell (i := 1) (v := .string (B x.v)) rfl), (HX3.cell (i := 2) (v := .int .i64 x.at_) rfl), HG3.b2.cell⟩ (fun hHeld => ?_)
            clear hK K
            refine norm_ (a' := ?_) ?_ ?_
            rotate_left
            · show Act.put _ (some 24) _ = _
              simp only [Act.put, List.setIfInBounds_toArray, List.set_cons_zero, List.set_cons_succ]
              rfl
            exact norm_ (by simp only [putAll, Act.put, List.setIfInBounds_toArray, List.set_cons_zero, List.set_cons_succ]) (hCont (Wd.heap.size, w3.heap.size, A1, n1, c1) _ ⟨HG3, HX3, T8_3, HK3⟩)
          · skip
            refine value_ (w1 := ?_) (v := ?_) (by rfl) rfl ?_ ?_
            rotate_left 2
            · go_simp
              constructor
              · rfl
              · rfl
            have HG2 := HG1.below (below_alloc (Below.refl _ _) (.cells #[.int .i64 x.at_] 3))
            have HX2 := HX1.keep (below_alloc (Below.refl _ _) (.cells #[.int .i64 x.at_] 3))
            have HK2 := HK1.trans (nkeeps_below (below_alloc (Below.refl _ _) (.cells #[.int .i64 x.at_] 3)))
            have T8_2 := nblk_new HG1 #[.int .i64 x.at_] 3
            try simp only [World.size_alloc] at T8_2
            have T3_2 := T3_1.alloc (.cells #[.int .i64 x.at_] 3)
            refine hK.out _ _ ⟨HG2.b1.cell, (HX2.cell (i := 0) (v := .string (B x.k)) rfl), (HX2.cell (i := 1) (v := .string (B x.v)) rfl), (HX2.cell (i := 2) (v := .int .i64 x.at_) rfl), HG2.b2.cell⟩ (fun hHeld => ?_)
            clear hK K
            refine norm_ (a' := ?_) ?_ ?_
            rotate_left
            · show Act.put _ (some 24) _ = _
              simp only [Act.put, List.setIfInBounds_toArray, List.set_cons_zero, List.set_cons_succ]
              rfl
            refine one_ (i := 4) (N := some 20) #[true, true, true, true, true, true, true, true, true, false, false, false] rfl rfl (by kernel_rfl) (by decide) (fun K hK => ?_)
            refine Kd.R_append_rows_step k28 (Rr := fun (y : S28) cs => cs = [.string y.f0, .string y.f1]) (w0 := w) w.heap.size (by rfl) (.tmp 16) (.tmp 19) 38 28 (.agg #[(.string ⟨#[]⟩), (.string ⟨#[]⟩)]) 32 rfl Tryd.underlying38 ninfoN rfl (by decide) (by omega) v1 L [(⟨B x.k, B x.v⟩ : S28)] (some ⟨_, 0, none⟩) 1 1 (fun j => w.heap.size ≤ j) (fun _ => False) rfl rfl HG2.o1 (nreads2 T3_2) (fun y cs e => by subst e; exact k28_mkM _ _ _ _) (fun _ hk => hk.elim) (fun j hj => Nat.le_trans HG2.bw.size hj) HG2.bw HG2.bw.size (by have := HLN.out; omega) ?_
            intro y1 w3 hR hB hg _
            obtain ⟨A1, n1, c1, rfl⟩ : ∃ A1 n1 c1, y1 = .slice A1 n1 c1 := by obtain ⟨A1, c1, e⟩ := Kd.R_slice hR; exact ⟨A1, _, c1, e⟩
            have hty := fun k e => Kd.R_typed HG2.o1 k e
            have HG3 := HG2.app1 hR hg
            have HX3 := nblk_step HX2 hg _ hty (by decide)
            have HK3 := HK2.trans (nkeeps_typed hg hty)
            have T8_3 := nblk_step T8_2 hg _ hty (by decide)
            refine hK.out _ _ ⟨HG3.b1.cell, (HX3.cell (i := 0) (v := .string (B x.k)) rfl), (HX3.cell (i := 1) (v := .string (B x.v)) rfl), (HX3.cell (i := 2) (v := .int .i64 x.at_) rfl), HG3.b2.cell⟩ (fun hHeld => ?_)
            clear hK K
            refine norm_ (a' := ?_) ?_ ?_
            rotate_left
            · show Act.put _ (some 20) _ = _
              simp only [Act.put, List.setIfInBounds_toArray, List.set_cons_zero, List.set_cons_succ]
              rfl
            exact norm_ (by simp only [putAll, Act.put, List.setIfInBounds_toArray, List.set_cons_zero, List.set_cons_succ]) (hCont (Wd.heap.size, (Wd.heap.size + 1), A1, n1, c1) _ ⟨HG3, HX3, T8_3, HK3⟩)
        · skip
          refine value_ (w1 := ?_) (v := ?_) (by rfl) rfl ?_ ?_
          rotate_left 2
          · go_simp
            constructor
            · rfl
            · rfl
          have HG1 := HG0.below (below_alloc (Below.refl _ _) (.cells #[.int .i64 x.at_] 3))
          have HX1 := HX0.keep (below_alloc (Below.refl _ _) (.cells #[.int .i64 x.at_] 3))
          have HK1 := HK0.trans (nkeeps_below (below_alloc (Below.refl _ _) (.cells #[.int .i64 x.at_] 3)))
          have T8_1 := nblk_new HG0 #[.int .i64 x.at_] 3
          try simp only [World.size_alloc] at T8_1
          refine hK.out _ _ ⟨HG1.b1.cell, (HX1.cell (i := 0) (v := .string (B x.k)) rfl), (HX1.cell (i := 1) (v := .string (B x.v)) rfl), (HX1.cell (i := 2) (v := .int .i64 x.at_) rfl), HG1.b2.cell⟩ (fun hHeld => ?_)
          clear hK K
          refine norm_ (a' := ?_) ?_ ?_
          rotate_left
          · show Act.put _ (some 24) _ = _
            simp only [Act.put, List.setIfInBounds_toArray, List.set_cons_zero, List.set_cons_succ]
            rfl
          refine one_ (i := 3) (N := some 19) #[true, true, true, true, false, true, true, true, true, false, false, false] rfl rfl (by kernel_rfl) (by decide) (fun K hK => ?_)
          refine value_ (w1 := ?_) (v := ?_) (by rfl) rfl ?_ ?_
          rotate_left 2
          · go_simp
            constructor
            · rfl
            · rfl
          have HG2 := HG1.below (below_alloc (Below.refl _ _) (.cells #[.string (B x.k), .string (B x.v)] 28))
          have HX2 := HX1.keep (below_alloc (Below.refl _ _) (.cells #[.string (B x.k), .string (B x.v)] 28))
          have HK2 := HK1.trans (nkeeps_below (below_alloc (Below.refl _ _) (.cells #[.string (B x.k), .string (B x.v)] 28)))
          have T3_2 := nblk_new HG1 #[.string (B x.k), .string (B x.v)] 28
          try simp only [World.size_alloc] at T3_2
          have T8_2 := T8_1.alloc (.cells #[.string (B x.k), .string (B x.v)] 28)
          refine hK.out _ _ ⟨HG2.b1.cell, (HX2.cell (i := 0) (v := .string (B x.k)) rfl), (HX2.cell (i := 1) (v := .string (B x.v)) rfl), (HX2.cell (i := 2) (v := .int .i64 x.at_) rfl), HG2.b2.cell⟩ (fun hHeld => ?_)
          clear hK K
          refine norm_ (a' := ?_) ?_ ?_
          rotate_left
          · show Act.put _ (some 19) _ = _
            simp only [Act.put, List.setIfInBounds_toArray, List.set_cons_zero, List.set_cons_succ]
            rfl
          refine one_ (i := 4) (N := some 20) #[true, true, true, true, true, true, true, true, true, false, false, false] rfl rfl (by kernel_rfl) (by decide) (fun K hK => ?_)
          refine Kd.R_append_rows_step k28 (Rr := fun (y : S28) cs => cs = [.string y.f0, .string y.f1]) (w0 := w) w.heap.size (by rfl) (.tmp 16) (.tmp 19) 38 28 (.agg #[(.string ⟨#[]⟩), (.string ⟨#[]⟩)]) 32 rfl Tryd.underlying38 ninfoN rfl (by decide) (by omega) v1 L [(⟨B x.k, B x.v⟩ : S28)] (some ⟨_, 0, none⟩) 1 1 (fun j => w.heap.size ≤ j) (fun _ => False) rfl rfl HG2.o1 (nreads2 T3_2) (fun y cs e => by subst e; exact k28_mkM _ _ _ _) (fun _ hk => hk.elim) (fun j hj => Nat.le_trans HG2.bw.size hj) HG2.bw HG2.bw.size (by have := HLN.out; omega) ?_
          intro y1 w3 hR hB hg _
          obtain ⟨A1, n1, c1, rfl⟩ : ∃ A1 n1 c1, y1 = .slice A1 n1 c1 := by obtain ⟨A1, c1, e⟩ := Kd.R_slice hR; exact ⟨A1, _, c1, e⟩
          have hty := fun k e => Kd.R_typed HG2.o1 k e
          have HG3 := HG2.app1 hR hg
          have HX3 := nblk_step HX2 hg _ hty (by decide)
          have HK3 := HK2.trans (nkeeps_typed hg hty)
          have T8_3 := nblk_step T8_2 hg _ hty (by decide)
          refine hK.out _ _ ⟨HG3.b1.cell, (HX3.cell (i := 0) (v := .string (B x.k)) rfl), (HX3.cell (i := 1) (v := .string (B x.v)) rfl), (HX3.cell (i := 2) (v := .int .i64 x.at_) rfl), HG3.b2.cell⟩ (fun hHeld => ?_)
          clear hK K
          refine norm_ (a' := ?_) ?_ ?_
          rotate_left
          · show Act.put _ (some 20) _ = _
            simp only [Act.put, List.setIfInBounds_toArray, List.set_cons_zero, List.set_cons_succ]
            rfl
          exact norm_ (by simp only [putAll, Act.put, List.setIfInBounds_toArray, List.set_cons_zero, List.set_cons_succ]) (hCont ((Wd.heap.size + 1), Wd.heap.size, A1, n1, c1) _ ⟨HG3, HX3, T8_3, HK3⟩)
      rintro ⟨g1, g2, A1, n1, c1⟩ wf ⟨HG3, HX3, T8, HK3⟩
      have hHeld : (wf.cell? ⟨BL, 0, none⟩ = some v1 ∧ wf.cell? ⟨Bx, 0, none⟩ = some (.string (B x.k)) ∧ wf.cell? ⟨Bx, 1, none⟩ = some (.string (B x.v)) ∧ wf.cell? ⟨Bx, 2, none⟩ = some (.int .i64 x.at_) ∧ wf.cell? ⟨BM, 0, none⟩ = some v2) := ⟨HG3.b1.cell, (HX3.cell (i := 0) (v := .string (B x.k)) rfl), (HX3.cell (i := 1) (v := .string (B x.v)) rfl), (HX3.cell (i := 2) (v := .int .i64 x.at_) rfl), HG3.b2.cell⟩
      refine norm_ (a' := ?_) ?_ ?_
      rotate_left
      · simp only [putAll, Act.put, List.setIfInBounds_toArray, List.set_cons_zero, List.set_cons_succ]
        rfl
      refine one_ (i := 9) (N := some 25) #[true, true, true, true, true, true, true, true, true, true, false, false] rfl rfl (by kernel_rfl) (by decide) (fun K hK => ?_)
      refine Kd.R_append_rows_step (Kd.int .i64) (Rr := fun (y : Int) cs => cs = [.int .i64 y]) (w0 := w) w.heap.size (by rfl) (.tmp 21) (.tmp 24) 39 3 (.int .i64 0) 8 rfl Tryd.underlying39 ninfoI rfl (by decide) (by omega) v2 AT [x.at_] (some ⟨g2, 0, none⟩) 1 1 (fun j => w.heap.size ≤ j) (fun _ => False) rfl rfl HG3.o2 (nreads1 T8) (fun y cs e => by subst e; exact rfl) (fun _ hk => hk.elim) (fun j hj => Nat.le_trans HG3.bw.size hj) HG3.bw HG3.bw.size (by have := HLA.out; omega) ?_
      intro y2 w5 hR2 hB2 hg2 _
      obtain ⟨A2, n2, c2, rfl⟩ : ∃ A2 n2 c2, y2 = .slice A2 n2 c2 := by obtain ⟨A2, c2, e⟩ := Kd.R_slice hR2; exact ⟨A2, _, c2, e⟩
      have hty2 := fun k e => Kd.R_typed HG3.o2 k e
      have HG4 := HG3.app2 hR2 hg2
      have HX4 := nblk_step HX3 hg2 _ hty2 (by decide)
      have HK4 := HK3.trans (nkeeps_typed hg2 hty2)
      have c13 := HG4.b1.cell
      have f13 := HG4.b1.frozen
      have c14 := (HG4.b2.other (B' := BL) (Ne.symm HG4.nLM) (.slice A1 n1 c1)).cell
      have f14 := (HG4.b2.other (B' := BL) (Ne.symm HG4.nLM) (.slice A1 n1 c1)).frozen
      refine hK.out _ _ ⟨HG4.b1.cell, (HX4.cell (i := 0) (v := .string (B x.k)) rfl), (HX4.cell (i := 1) (v := .string (B x.v)) rfl), (HX4.cell (i := 2) (v := .int .i64 x.at_) rfl), HG4.b2.cell⟩ (fun hHeld => ?_)
      clear hK K
      refine norm_ (a' := ?_) ?_ ?_
      rotate_left
      · show Act.put _ (some 25) _ = _
        simp only [Act.put, List.setIfInBounds_toArray, List.set_cons_zero, List.set_cons_succ]
        rfl
      refine last_ (i := 10) (N := none) #[true, true, true, true, true, true, true, true, true, true, true, false] rfl rfl (by kernel_rfl) (by decide) (fun K hK => ?_)
      refine skip_ (w1 := ?_) (by rfl) rfl ?_ ?_
      rotate_left
      · go_simp
        rfl
      refine hK.out _ _ ?_
      clear hK K
      refine last_ (i := 11) (N := none) #[true, true, true, true, true, true, true, true, true, true, true, true] rfl rfl (by kernel_rfl) (by decide) (fun K hK => ?_)
      refine skip_ (w1 := ?_) (by rfl) rfl ?_ ?_
      rotate_left
      · go_simp
        rfl
      refine hK.out _ _ ?_
      clear hK K
      refine done_ (by kernel_rfl) ?_
      have hfin := HG4.put (.slice A1 n1 c1) (.slice A2 n2 c2)
      have bk := HK4.trans (((KeepsOthers.setCell w5 ⟨BL, 0, none⟩ (.slice A1 n1 c1)).from W0.heap.size).trans ((KeepsOthers.setCell (w5.setCell ⟨BL, 0, none⟩ (.slice A1 n1 c1)) ⟨BM, 0, none⟩ (.slice A2 n2 c2)).from W0.heap.size))
      refine ⟨bk, nbelow_between HB hfin.bw bk.size, .inl ⟨rfl, not_not_intro he, .slice A1 n1 c1, .slice A2 n2 c2, ?_⟩⟩
      rw [List.map_append, List.map_append, hL.out, hAT.out]
      exact hfin
  case done =>
    rintro D ys W hD hS ⟨v1, v2, HG⟩ hK
    obtain ⟨A1, n1, c1, rfl⟩ : ∃ A1 n1 c1, v1 = .slice A1 n1 c1 := by obtain ⟨A1, c1, e⟩ := Kd.R_slice HG.o1; exact ⟨A1, _, c1, e⟩
    obtain ⟨A2, n2, c2, rfl⟩ : ∃ A2 n2 c2, v2 = .slice A2 n2 c2 := by obtain ⟨A2, c2, e⟩ := Kd.R_slice HG.o2; exact ⟨A2, _, c2, e⟩
    have HGd := HG.below (Below.drew (Below.refl _ _))
    have HK0 : KeepsFrom W0.heap.size W W.drew := nkeeps_below (Below.drew (Below.refl _ _))
    have cL := HGd.b1.cell
    have cM := HGd.b2.cell
    have hL1 : BL ≠ w.heap.size := Ne.symm HGd.n1L
    have hM1 := nblk_ne HGd.b2 HGd.c1 (by decide)
    gi_wp2
    refine wpIn_mono (Q := fun e a' w' => e = .normal ∧ a' = { tmps := #[.string (B s), undef, .pointer (some ⟨w.heap.size, 0, none⟩), .pointer (some ⟨R2, 0, none⟩), .pointer (some ⟨R3, 0, none⟩), .pointer (some ⟨BL, 0, none⟩), .pointer (some ⟨BM, 0, none⟩), undef, .string (B s), .func (.func 59) #[] #[.pointer (some ⟨Bs, 0, none⟩)], undef, undef, undef, undef, undef, undef, undef, undef, undef, undef, undef, undef, undef, undef, undef, undef, .slice A1 n1 c1, .slice A2 n2 c2], defers := [{ target := .collected D, args := #[] }] } ∧ Na w.heap.size R2 R3 BL BM Bs s w (.slice A1 n1 c1) (.slice A2 n2 c2) (.slice A1 n1 c1) (.slice A2 n2 c2) (.slice A1 n1 c1) (.slice A2 n2 c2) (.int .i64 0) (ys.map nd) (ys.map (fun x => x.at_)) w' ∧ KeepsFrom W0.heap.size W w') ?reg ?cont
    case reg =>
     refine wpIn_wide.2 ?_
     refine start_ (n := 5) (S := fun w' => w'.cell? ⟨BL, 0, none⟩ = some (.slice A1 n1 c1) ∧ w'.cell? ⟨BM, 0, none⟩ = some (.slice A2 n2 c2)) (ds := [3, 4]) #[false, false, false, false, false] (by kernel_rfl) rfl rfl ⟨cL, cM⟩ (fun hHeld => ?_)
     generalize W.drew = Wd at HGd HK0 cL cM hHeld ⊢
     have hs1 := HGd.c1.cell
     have hf1 := HGd.c1.frozen
     have hs2 := (HGd.c2.other (B' := w.heap.size) (Ne.symm HGd.n12) (.slice A1 n1 c1)).cell
     have hf2 := (HGd.c2.other (B' := w.heap.size) (Ne.symm HGd.n12) (.slice A1 n1 c1)).frozen
     have hs3 := ((HGd.c3.other (B' := w.heap.size) (Ne.symm HGd.n13) (.slice A1 n1 c1)).other (B' := R2) (Ne.symm HGd.n23) (.slice A2 n2 c2)).cell
     have hf3 := ((HGd.c3.other (B' := w.heap.size) (Ne.symm HGd.n13) (.slice A1 n1 c1)).other (B' := R2) (Ne.symm HGd.n23) (.slice A2 n2 c2)).frozen
     refine take_ (i := 0) (N := some 26) (v := ?_) (a' := ?_) #[true, false, false, false, false] rfl rfl (by kernel_rfl) (fun _ _ _ h => by cases h.1) (Or.inl ⟨by rfl, ?_⟩) hHeld ?_ ?_
     rotate_left
     · rintro w' ⟨s0, s1⟩
       go_simp
       with_reducible rfl
     rotate_left
     · simp only [Act.put, List.setIfInBounds_toArray, List.set_cons_zero, List.set_cons_succ]
       rfl
     refine take_ (i := 1) (N := some 27) (v := ?_) (a' := ?_) #[true, true, false, false, false] rfl rfl (by kernel_rfl) (fun _ _ _ h => by cases h.1) (Or.inl ⟨by rfl, ?_⟩) hHeld ?_ ?_
     rotate_left
     · rintro w' ⟨s0, s1⟩
       go_simp
       with_reducible rfl
     rotate_left
     · simp only [Act.put, List.setIfInBounds_toArray, List.set_cons_zero, List.set_cons_succ]
       rfl
     refine one_ (i := 2) (N := none) #[true, true, true, false, false] rfl rfl (by kernel_rfl) (by decide) (fun K hK => ?_)
     refine skip_ (w1 := ?_) (by rfl) rfl ?_ ?_
     rotate_left
     · go_simp
       rfl
     refine hK.out _ _ ⟨((cell_far (p := ⟨w.heap.size, _, none⟩) hL1 _).trans hHeld.1), ((cell_far (p := ⟨w.heap.size, _, none⟩) hM1 _).trans hHeld.2)⟩ (fun hHeld => ?_)
     clear hK K
     refine last_ (i := 3) (N := none) #[true, true, true, true, false] rfl rfl (by kernel_rfl) (by decide) (fun K hK => ?_)
     refine skip_ (w1 := ?_) (by rfl) rfl ?_ ?_
     rotate_left
     · go_simp
       rfl
     refine hK.out _ _ ?_
     clear hK K
     refine last_ (i := 4) (N := none) #[true, true, true, true, true] rfl rfl (by kernel_rfl) (by decide) (fun K hK => ?_)
     refine skip_ (w1 := ?_) (by rfl) rfl ?_ ?_
     rotate_left
     · go_simp
       rfl
     refine hK.out _ _ ?_
     clear hK K
     refine done_ (by kernel_rfl) ?_
     have hfin := HGd.ret (.slice A1 n1 c1) (.slice A2 n2 c2) (.int .i64 0)
     have bk := HK0.trans ((((KeepsOthers.setCell Wd ⟨w.heap.size, 0, none⟩ (.slice A1 n1 c1)).from W0.heap.size).trans ((KeepsOthers.setCell (Wd.setCell ⟨w.heap.size, 0, none⟩ (.slice A1 n1 c1)) ⟨R2, 0, none⟩ (.slice A2 n2 c2)).from W0.heap.size)).trans ((KeepsOthers.setCell ((Wd.setCell ⟨w.heap.size, 0, none⟩ (.slice A1 n1 c1)).setCell ⟨R2, 0, none⟩ (.slice A2 n2 c2)) ⟨R3, 0, none⟩ (.int .i64 0)).from W0.heap.size))
     exact ⟨rfl, rfl, hfin, bk⟩
    case cont =>
    rintro e a' Wf ⟨rfl, rfl, hfin, bk⟩
    have hK2 := bk.same D _ hD hK rfl
    gi_wp2
    refine ⟨by simp, .inl ⟨_, _, rfl, run_takeDeferred hK2, ?_⟩⟩
    have hfin2 := hfin.calm (grownBy_putObj' Wf D (.deferred none)) (fun r e' => by cases e'; exact ⟨Nat.le_trans hn0 hD, _, hK2, rfl⟩)
    refine ⟨_, nresults_ccc rfl _ _ rfl rfl rfl hfin2.c1 hfin2.c2 hfin2.c3 Tryd.underlying38 rfl Tryd.underlying39 rfl Tryd.underlying25 rfl, _, _, by rw [hS], ?_, ?_, hfin2.bw⟩
    · rw [hS]
      have := Kd.R_mono hfin2.o1 (fun _ _ => trivial)
      simp only [List.map_map]
      exact this
    · rw [hS]
      exact Kd.R_mono hfin2.o2 (fun _ _ => trivial)
  case left =>
    rintro D ys W hD hS ⟨pre, x, u1, u2, v1, v2, L, AT, e, HG⟩ hK
    obtain ⟨pre2, x2, e2, hS⟩ := hS
    rw [e] at e2
    obtain ⟨e4, e3⟩ := List.append_inj' e2 rfl
    obtain rfl : x = x2 := (List.cons.inj e3).1
    refine ⟨by simp, .inl ⟨_, _, rfl, run_takeDeferred hK, ?_⟩⟩
    have hfin2 := HG.calm (grownBy_putObj' W D (.deferred none)) (fun r e' => by cases e'; exact ⟨Nat.le_trans hn0 hD, _, hK, rfl⟩)
    refine ⟨_, nresults_ccc rfl _ _ rfl rfl rfl hfin2.c1 hfin2.c2 hfin2.c3 Tryd.underlying38 rfl Tryd.underlying39 rfl Tryd.underlying25 rfl, _, _, by rw [hS], ?_, ?_, hfin2.bw⟩
    · rw [hS]
      exact Kd.R_nil _ _ _ _ _
    · rw [hS]
      exact Kd.R_nil _ _ _ _ _
def needle_All.f (a0 : ByteArray) : Option (List S28 × List Int × Int) := if a0.size ≤ 1048576 then some ((allN a0.size [] [] a0.data.toList).1.map ndP, (allN a0.size [] [] a0.data.toList).2.1, (allN a0.size [] [] a0.data.toList).2.2) else none
theorem needle_All.calls (a0 : ByteArray) (r1 : List S28) (r2 : List Int) (r3 : Int) (w : World) (h : needle_All.f a0 = some (r1, r2, r3)) :
    Calls Tryd.prog 17 #[.string a0] w fun e w' => ∃ v0_ v1_ : Value, e = .returned (.tuple #[v0_, v1_, .int .i64 r3]) ∧ Kd.R k28 28 w' w.heap.size (fun _ => True) v0_ r1 ∧ Kd.R (Kd.int .i64) 3 w' w.heap.size (fun _ => True) v1_ r2 ∧ Below w.heap.size w w' := by
  unfold needle_All.f at h
  split at h
  · rename_i hs
    have e := Option.some.inj h
    simp only [Prod.mk.injEq] at e
    obtain ⟨rfl, rfl, rfl⟩ := e
    have := nall_calls a0.data.toList (by rw [size_data]; exact hs) w
    rw [B_eta, size_data] at this
    exact this
  · cases h
end Go.Proofs.YtpgfafpjfdbjmaaDoor
end
section
namespace Go.Proofs.YtpgfafpjfdbjmaaDoor
open Go.RowKit Q Go.Proofs.YtpgfafpjfdbjmaaDoorW.PrintWords Go.Proofs.YtpgfafpjfdbjmaaDoorW.PrintLast Go.Proofs.YtpgfafpjfdbjmaaDoorW.PrintMore
attribute [local go_sem] Oper.semAt_some
theorem chunk_calls (g cap : Nat) (w : World) (n : Nat) : CallsIn Fence.wide n Tryd.prog 42 #[.slice (some ⟨g, 0, none⟩) 384 cap, .int .i64 64] w fun e w' => e = .returned (.func (.func 60) #[] #[.pointer (some ⟨w.heap.size, 0, none⟩), .pointer (some ⟨w.heap.size + 1, 0, none⟩)]) ∧ w' = (w.alloc (.cells #[.slice (some ⟨g, 0, none⟩) 384 cap] 59)).alloc (.cells #[.int .i64 64] 3) := by
  refine callsIn_of_wp Tryd.func42 rfl trivial ?_ rfl
  simp only [Tryd.ntmps42, List.size_toArray, List.length_cons, List.length_nil, Nat.reduceAdd, Nat.reduceSub, Array.replicate_succ, Array.replicate_zero, List.push_toArray, List.append_toArray, List.nil_append, List.cons_append]
  gi_wp2
  go_ret
  exact ⟨rfl, rfl⟩
set_option maxRecDepth 100000 in
set_option maxHeartbeats 1000000 in
theorem chunk_in (n : Nat) (hn : 1 ≤ n) (l B1 B2 g cap : Nat) (hcap : 384 ≤ cap) (w0 : World) (J Jx : List Nat → World → Prop) (hJ : ∀ s A B, J s A → A.grownBy B none → J s B) (hBx : ∀ p A, J p A → A.cell? ⟨B1, 0, none⟩ = some (.slice (some ⟨g, 0, none⟩) 384 cap) ∧ A.cell? ⟨B2, 0, none⟩ = some (.int .i64 64))
    (hY : ∀ pre x W1, J pre W1 → x < 6 → pre.length < 6 → YieldAt Fence.wide (n - 1) Tryd.prog l #[.slice (some ⟨g, 64 * x, none⟩) 64 64] W1 fun e W' => (e = .returned (.bool true) ∧ ¬ False ∧ J (pre ++ [x]) W' ∧ Below w0.heap.size W1 W') ∨ (e = .returned (.bool false) ∧ False ∧ Jx (pre ++ [x]) W' ∧ Below w0.heap.size W1 W'))
    (W : World) (hb0 : Below w0.heap.size w0 W) (h0 : J [] W) :
    CallsIn Fence.wide n Tryd.prog 60 #[.func (.yield l) #[] #[], .pointer (some ⟨B1, 0, none⟩), .pointer (some ⟨B2, 0, none⟩)] W fun e W' => (∃ v, e = .returned v) ∧ ((∃ ys : List Nat, ys = [0, 1, 2, 3, 4, 5] ∧ J ys W') ∨ (∃ ys : List Nat, False ∧ Jx ys W')) := by
  have HJ := Aside0.mk h0
  have HB := Aside0.mk hb0
  have HY := Aside0.mk hY
  have HG := Aside0.mk hJ
  have HX := Aside0.mk hBx
  clear h0 hb0 hY hJ hBx
  refine callsIn_of_wp Tryd.func60 rfl trivial ?_ rfl
  simp only [Tryd.ntmps60, List.size_toArray, List.length_cons, List.length_nil, Nat.reduceAdd, Nat.reduceSub, Array.replicate_succ, Array.replicate_zero, List.push_toArray, List.append_toArray, List.nil_append, List.cons_append]
  gi_wp2
  gi_loopw [4] (fun i wr => ∃ k : Nat, k ≤ 6 ∧ i = .int .i64 ((64 * k : Nat) : Int) ∧ Aside0 (J (List.range k) wr) ∧ Aside0 (Below w0.heap.size w0 wr)) (fun i _ => 384 - (intOf i).toNat)
  case atStart => exact ⟨0, Nat.zero_le _, rfl, HJ, HB⟩
  case round =>
    clear HJ HB
    obtain ⟨k, hk, rfl, HJ, HB⟩ := hrel
    obtain ⟨hc1, hc2⟩ := HX.out _ _ HJ.out
    by_cases h6 : k = 6
    case pos =>
      subst h6
      gi_wp2
      go_end0
      exact ⟨⟨_, rfl⟩, .inl ⟨_, rfl, HJ.out⟩⟩
    case neg =>
      have hk5 : k = 0 ∨ k = 1 ∨ k = 2 ∨ k = 3 ∨ k = 4 ∨ k = 5 := by omega
      clear hk h6
      rcases hk5 with rfl | rfl | rfl | rfl | rfl | rfl
      · gi_wp2
        refine wpIn_wide.2 ?_
        refine start_ (n := 7) (S := fun w' => w'.cell? ⟨B2, 0, none⟩ = some (.int .i64 64) ∧ w'.cell? ⟨B1, 0, none⟩ = some (.slice (some ⟨g, 0, none⟩) 384 cap)) (ds := []) #[false, false, false, false, false, false, false] (by kernel_rfl) rfl rfl ⟨hc2, hc1⟩ (fun hHeld => ?_)
        refine pure_ (i := 2) (N := some 15) (v := ?_) (a' := ?_) #[false, false, true, false, false, false, false] rfl rfl (by kernel_rfl) (fun _ _ _ h => h) (Or.inl ⟨by rfl, ?_⟩) ?_ ?_
        rotate_left
        · intro w'
          go_simp
          with_reducible rfl
        rotate_left
        · simp only [Act.put, List.setIfInBounds_toArray, List.set_cons_zero, List.set_cons_succ]
          rfl
        refine take_ (i := 0) (N := some 13) (v := ?_) (a' := ?_) #[true, false, true, false, false, false, false] rfl rfl (by kernel_rfl) (fun _ _ _ h => h) (Or.inl ⟨by rfl, ?_⟩) hHeld ?_ ?_
        rotate_left
        · rintro w' ⟨s0, s1⟩
          go_simp
          with_reducible rfl
        rotate_left
        · simp only [Act.put, List.setIfInBounds_toArray, List.set_cons_zero, List.set_cons_succ]
          rfl
        refine take_ (i := 1) (N := some 14) (v := ?_) (a' := ?_) #[true, true, true, false, false, false, false] rfl rfl (by kernel_rfl) (fun _ _ _ h => h) (Or.inl ⟨by rfl, ?_⟩) hHeld ?_ ?_
        rotate_left
        · rintro w' ⟨s0, s1⟩
          go_simp
          with_reducible rfl
        rotate_left
        · simp only [Act.put, List.setIfInBounds_toArray, List.set_cons_zero, List.set_cons_succ]
          rfl
        refine pure_ (i := 3) (N := some 16) (v := ?_) (a' := ?_) #[true, true, true, true, false, false, false] rfl rfl (by kernel_rfl) (fun _ _ _ h => h) (Or.inl ⟨by rfl, ?_⟩) ?_ ?_
        rotate_left
        · intro w'
          go_simp
          with_reducible rfl
        rotate_left
        · simp only [Act.put, List.setIfInBounds_toArray, List.set_cons_zero, List.set_cons_succ]
          rfl
        refine pure_ (i := 4) (N := some 17) (v := ?_) (a' := ?_) #[true, true, true, true, true, false, false] rfl rfl (by kernel_rfl) (fun _ _ _ h => h) (Or.inl ⟨by rfl, ?_⟩) ?_ ?_
        rotate_left
        · intro w'
          go_simp
          with_reducible rfl
        rotate_left
        · simp only [Act.put, List.setIfInBounds_toArray, List.set_cons_zero, List.set_cons_succ]
          rfl
        refine pure_ (i := 5) (N := some 18) (v := ?_) (a' := ?_) #[true, true, true, true, true, true, false] rfl rfl (by kernel_rfl) (fun _ _ _ h => h) (Or.inl ⟨by rfl, ?_⟩) ?_ ?_
        rotate_left
        · intro w'
          go_simp
          with_reducible rfl
        rotate_left
        · simp only [Act.put, List.setIfInBounds_toArray, List.set_cons_zero, List.set_cons_succ]
          rfl
        refine pure_ (i := 6) (N := some 5) (v := ?_) (a' := ?_) #[true, true, true, true, true, true, true] rfl rfl (by kernel_rfl) (fun _ _ _ h => h) (Or.inl ⟨by rfl, ?_⟩) ?_ ?_
        rotate_left
        · intro w'
          go_simp
          with_reducible rfl
        rotate_left
        · simp only [Act.put, List.setIfInBounds_toArray, List.set_cons_zero, List.set_cons_succ]
          rfl
        refine done_ (by kernel_rfl) ?_
        have HJ1 := HG.out _ _ _ HJ.out (ngrown_of (Below.drew (Below.refl _ _)))
        have HB1 := Below.drew HB.out
        clear hHeld
        generalize wr.drew = wd at HJ1 HB1 ⊢
        obtain ⟨hc1, hc2⟩ := HX.out _ _ HJ1
        obtain ⟨fn, tmps, assign, body, hy, hRd⟩ := HY.out (List.range 0) 0 wd HJ1 (by decide) (by decide)
        simp only [Nat.reduceMul] at hy
        gi_wp2
        refine hRd.mono ?_
        rintro e3 W3 (⟨rfl, _, hJ3, hk3⟩ | ⟨_, hf, _, _⟩)
        · obtain ⟨hc1, hc2⟩ := HX.out _ _ hJ3
          gi_wp2
          go_roundw
          case rel => exact ⟨1, by decide, by first | rfl | go_num, ⟨hJ3⟩, ⟨HB1.trans hk3⟩⟩
          case measure => simp [intOf]
        · exact hf.elim
      · gi_wp2
        refine wpIn_wide.2 ?_
        refine start_ (n := 7) (S := fun w' => w'.cell? ⟨B2, 0, none⟩ = some (.int .i64 64) ∧ w'.cell? ⟨B1, 0, none⟩ = some (.slice (some ⟨g, 0, none⟩) 384 cap)) (ds := []) #[false, false, false, false, false, false, false] (by kernel_rfl) rfl rfl ⟨hc2, hc1⟩ (fun hHeld => ?_)
        refine pure_ (i := 2) (N := some 15) (v := ?_) (a' := ?_) #[false, false, true, false, false, false, false] rfl rfl (by kernel_rfl) (fun _ _ _ h => h) (Or.inl ⟨by rfl, ?_⟩) ?_ ?_
        rotate_left
        · intro w'
          go_simp
          with_reducible rfl
        rotate_left
        · simp only [Act.put, List.setIfInBounds_toArray, List.set_cons_zero, List.set_cons_succ]
          rfl
        refine take_ (i := 0) (N := some 13) (v := ?_) (a' := ?_) #[true, false, true, false, false, false, false] rfl rfl (by kernel_rfl) (fun _ _ _ h => h) (Or.inl ⟨by rfl, ?_⟩) hHeld ?_ ?_
        rotate_left
        · rintro w' ⟨s0, s1⟩
          go_simp
          with_reducible rfl
        rotate_left
        · simp only [Act.put, List.setIfInBounds_toArray, List.set_cons_zero, List.set_cons_succ]
          rfl
        refine take_ (i := 1) (N := some 14) (v := ?_) (a' := ?_) #[true, true, true, false, false, false, false] rfl rfl (by kernel_rfl) (fun _ _ _ h => h) (Or.inl ⟨by rfl, ?_⟩) hHeld ?_ ?_
        rotate_left
        · rintro w' ⟨s0, s1⟩
          go_simp
          with_reducible rfl
        rotate_left
        · simp only [Act.put, List.setIfInBounds_toArray, List.set_cons_zero, List.set_cons_succ]
          rfl
        refine pure_ (i := 3) (N := some 16) (v := ?_) (a' := ?_) #[true, true, true, true, false, false, false] rfl rfl (by kernel_rfl) (fun _ _ _ h => h) (Or.inl ⟨by rfl, ?_⟩) ?_ ?_
        rotate_left
        · intro w'
          go_simp
          with_reducible rfl
        rotate_left
        · simp only [Act.put, List.setIfInBounds_toArray, List.set_cons_zero, List.set_cons_succ]
          rfl
        refine pure_ (i := 4) (N := some 17) (v := ?_) (a' := ?_) #[true, true, true, true, true, false, false] rfl rfl (by kernel_rfl) (fun _ _ _ h => h) (Or.inl ⟨by rfl, ?_⟩) ?_ ?_
        rotate_left
        · intro w'
          go_simp
          with_reducible rfl
        rotate_left
        · simp only [Act.put, List.setIfInBounds_toArray, List.set_cons_zero, List.set_cons_succ]
          rfl
        refine pure_ (i := 5) (N := some 18) (v := ?_) (a' := ?_) #[true, true, true, true, true, true, false] rfl rfl (by kernel_rfl) (fun _ _ _ h => h) (Or.inl ⟨by rfl, ?_⟩) ?_ ?_
        rotate_left
        · intro w'
          go_simp
          with_reducible rfl
        rotate_left
        · simp only [Act.put, List.setIfInBounds_toArray, List.set_cons_zero, List.set_cons_succ]
          rfl
        refine pure_ (i := 6) (N := some 5) (v := ?_) (a' := ?_) #[true, true, true, true, true, true, true] rfl rfl (by kernel_rfl) (fun _ _ _ h => h) (Or.inl ⟨by rfl, ?_⟩) ?_ ?_
        rotate_left
        · intro w'
          go_simp
          with_reducible rfl
        rotate_left
        · simp only [Act.put, List.setIfInBounds_toArray, List.set_cons_zero, List.set_cons_succ]
          rfl
        refine done_ (by kernel_rfl) ?_
        have HJ1 := HG.out _ _ _ HJ.out (ngrown_of (Below.drew (Below.refl _ _)))
        have HB1 := Below.drew HB.out
        clear hHeld
        generalize wr.drew = wd at HJ1 HB1 ⊢
        obtain ⟨hc1, hc2⟩ := HX.out _ _ HJ1
        obtain ⟨fn, tmps, assign, body, hy, hRd⟩ := HY.out (List.range 1) 1 wd HJ1 (by decide) (by decide)
        simp only [Nat.reduceMul] at hy
        gi_wp2
        refine hRd.mono ?_
        rintro e3 W3 (⟨rfl, _, hJ3, hk3⟩ | ⟨_, hf, _, _⟩)
        · obtain ⟨hc1, hc2⟩ := HX.out _ _ hJ3
          gi_wp2
          go_roundw
          case rel => exact ⟨2, by decide, by first | rfl | go_num, ⟨hJ3⟩, ⟨HB1.trans hk3⟩⟩
          case measure => simp [intOf]
        · exact hf.elim
      · gi_wp2
        refine wpIn_wide.2 ?_
        refine start_ (n := 7) (S := fun w' => w'.cell? ⟨B2, 0, none⟩ = some (.int .i64 64) ∧ w'.cell? ⟨B1, 0, none⟩ = some (.slice (some ⟨g, 0, none⟩) 384 cap)) (ds := []) #[false, false, false, false, false, false, false] (by kernel_rfl) rfl rfl ⟨hc2, hc1⟩ (fun hHeld => ?_)
        refine pure_ (i := 2) (N := some 15) (v := ?_) (a' := ?_) #[false, false, true, false, false, false, false] rfl rfl (by kernel_rfl) (fun _ _ _ h => h) (Or.inl ⟨by rfl, ?_⟩) ?_ ?_
        rotate_left
        · intro w'
          go_simp
          with_reducible rfl
        rotate_left
        · simp only [Act.put, List.setIfInBounds_toArray, List.set_cons_zero, List.set_cons_succ]
          rfl
        refine take_ (i := 0) (N := some 13) (v := ?_) (a' := ?_) #[true, false, true, false, false, false, false] rfl rfl (by kernel_rfl) (fun _ _ _ h => h) (Or.inl ⟨by rfl, ?_⟩) hHeld ?_ ?_
        rotate_left
        · rintro w' ⟨s0, s1⟩
          go_simp
          with_reducible rfl
        rotate_left
        · simp only [Act.put, List.setIfInBounds_toArray, List.set_cons_zero, List.set_cons_succ]
          rfl
        refine take_ (i := 1) (N := some 14) (v := ?_) (a' := ?_) #[true, true, true, false, false, false, false] rfl rfl (by kernel_rfl) (fun _ _ _ h => h) (Or.inl ⟨by rfl, ?_⟩) hHeld ?_ ?_
        rotate_left
        · rintro w' ⟨s0, s1⟩
          go_simp
          with_reducible rfl
        rotate_left
        · simp only [Act.put, List.setIfInBounds_toArray, List.set_cons_zero, List.set_cons_succ]
          rfl
        refine pure_ (i := 3) (N := some 16) (v := ?_) (a' := ?_) #[true, true, true, true, false, false, false] rfl rfl (by kernel_rfl) (fun _ _ _ h => h) (Or.inl ⟨by rfl, ?_⟩) ?_ ?_
        rotate_left
        · intro w'
          go_simp
          with_reducible rfl
        rotate_left
        · simp only [Act.put, List.setIfInBounds_toArray, List.set_cons_zero, List.set_cons_succ]
          rfl
        refine pure_ (i := 4) (N := some 17) (v := ?_) (a' := ?_) #[true, true, true, true, true, false, false] rfl rfl (by kernel_rfl) (fun _ _ _ h => h) (Or.inl ⟨by rfl, ?_⟩) ?_ ?_
        rotate_left
        · intro w'
          go_simp
          with_reducible rfl
        rotate_left
        · simp only [Act.put, List.setIfInBounds_toArray, List.set_cons_zero, List.set_cons_succ]
          rfl
        refine pure_ (i := 5) (N := some 18) (v := ?_) (a' := ?_) #[true, true, true, true, true, true, false] rfl rfl (by kernel_rfl) (fun _ _ _ h => h) (Or.inl ⟨by rfl, ?_⟩) ?_ ?_
        rotate_left
        · intro w'
          go_simp
          with_reducible rfl
        rotate_left
        · simp only [Act.put, List.setIfInBounds_toArray, List.set_cons_zero, List.set_cons_succ]
          rfl
        refine pure_ (i := 6) (N := some 5) (v := ?_) (a' := ?_) #[true, true, true, true, true, true, true] rfl rfl (by kernel_rfl) (fun _ _ _ h => h) (Or.inl ⟨by rfl, ?_⟩) ?_ ?_
        rotate_left
        · intro w'
          go_simp
          with_reducible rfl
        rotate_left
        · simp only [Act.put, List.setIfInBounds_toArray, List.set_cons_zero, List.set_cons_succ]
          rfl
        refine done_ (by kernel_rfl) ?_
        have HJ1 := HG.out _ _ _ HJ.out (ngrown_of (Below.drew (Below.refl _ _)))
        have HB1 := Below.drew HB.out
        clear hHeld
        generalize wr.drew = wd at HJ1 HB1 ⊢
        obtain ⟨hc1, hc2⟩ := HX.out _ _ HJ1
        obtain ⟨fn, tmps, assign, body, hy, hRd⟩ := HY.out (List.range 2) 2 wd HJ1 (by decide) (by decide)
        simp only [Nat.reduceMul] at hy
        gi_wp2
        refine hRd.mono ?_
        rintro e3 W3 (⟨rfl, _, hJ3, hk3⟩ | ⟨_, hf, _, _⟩)
        · obtain ⟨hc1, hc2⟩ := HX.out _ _ hJ3
          gi_wp2
          go_roundw
          case rel => exact ⟨3, by decide, by first | rfl | go_num, ⟨hJ3⟩, ⟨HB1.trans hk3⟩⟩
          case measure => simp [intOf]
        · exact hf.elim
      · gi_wp2
        refine wpIn_wide.2 ?_
        refine start_ (n := 7) (S := fun w' => w'.cell? ⟨B2, 0, none⟩ = some (.int .i64 64) ∧ w'.cell? ⟨B1, 0, none⟩ = some (.slice (some ⟨g, 0, none⟩) 384 cap)) (ds := []) #[false, false, false, false, false, false, false] (by kernel_rfl) rfl rfl ⟨hc2, hc1⟩ (fun hHeld => ?_)
        refine pure_ (i := 2) (N := some 15) (v := ?_) (a' := ?_) #[false, false, true, false, false, false, false] rfl rfl (by kernel_rfl) (fun _ _ _ h => h) (Or.inl ⟨by rfl, ?_⟩) ?_ ?_
        rotate_left
        · intro w'
          go_simp
          with_reducible rfl
        rotate_left
        · simp only [Act.put, List.setIfInBounds_toArray, List.set_cons_zero, List.set_cons_succ]
          rfl
        refine take_ (i := 0) (N := some 13) (v := ?_) (a' := ?_) #[true, false, true, false, false, false, false] rfl rfl (by kernel_rfl) (fun _ _ _ h => h) (Or.inl ⟨by rfl, ?_⟩) hHeld ?_ ?_
        rotate_left
        · rintro w' ⟨s0, s1⟩
          go_simp
          with_reducible rfl
        rotate_left
        · simp only [Act.put, List.setIfInBounds_toArray, List.set_cons_zero, List.set_cons_succ]
          rfl
        refine take_ (i := 1) (N := some 14) (v := ?_) (a' := ?_) #[true, true, true, false, false, false, false] rfl rfl (by kernel_rfl) (fun _ _ _ h => h) (Or.inl ⟨by rfl, ?_⟩) hHeld ?_ ?_
        rotate_left
        · rintro w' ⟨s0, s1⟩
          go_simp
          with_reducible rfl
        rotate_left
        · simp only [Act.put, List.setIfInBounds_toArray, List.set_cons_zero, List.set_cons_succ]
          rfl
        refine pure_ (i := 3) (N := some 16) (v := ?_) (a' := ?_) #[true, true, true, true, false, false, false] rfl rfl (by kernel_rfl) (fun _ _ _ h => h) (Or.inl ⟨by rfl, ?_⟩) ?_ ?_
        rotate_left
        · intro w'
          go_simp
          with_reducible rfl
        rotate_left
        · simp only [Act.put, List.setIfInBounds_toArray, List.set_cons_zero, List.set_cons_succ]
          rfl
        refine pure_ (i := 4) (N := some 17) (v := ?_) (a' := ?_) #[true, true, true, true, true, false, false] rfl rfl (by kernel_rfl) (fun _ _ _ h => h) (Or.inl ⟨by rfl, ?_⟩) ?_ ?_
        rotate_left
        · intro w'
          go_simp
          with_reducible rfl
        rotate_left
        · simp only [Act.put, List.setIfInBounds_toArray, List.set_cons_zero, List.set_cons_succ]
          rfl
        refine pure_ (i := 5) (N := some 18) (v := ?_) (a' := ?_) #[true, true, true, true, true, true, false] rfl rfl (by kernel_rfl) (fun _ _ _ h => h) (Or.inl ⟨by rfl, ?_⟩) ?_ ?_
        rotate_left
        · intro w'
          go_simp
          with_reducible rfl
        rotate_left
        · simp only [Act.put, List.setIfInBounds_toArray, List.set_cons_zero, List.set_cons_succ]
          rfl
        refine pure_ (i := 6) (N := some 5) (v := ?_) (a' := ?_) #[true, true, true, true, true, true, true] rfl rfl (by kernel_rfl) (fun _ _ _ h => h) (Or.inl ⟨by rfl, ?_⟩) ?_ ?_
        rotate_left
        · intro w'
          go_simp
          with_reducible rfl
        rotate_left
        · simp only [Act.put, List.setIfInBounds_toArray, List.set_cons_zero, List.set_cons_succ]
          rfl
        refine done_ (by kernel_rfl) ?_
        have HJ1 := HG.out _ _ _ HJ.out (ngrown_of (Below.drew (Below.refl _ _)))
        have HB1 := Below.drew HB.out
        clear hHeld
        generalize wr.drew = wd at HJ1 HB1 ⊢
        obtain ⟨hc1, hc2⟩ := HX.out _ _ HJ1
        obtain ⟨fn, tmps, assign, body, hy, hRd⟩ := HY.out (List.range 3) 3 wd HJ1 (by decide) (by decide)
        simp only [Nat.reduceMul] at hy
        gi_wp2
        refine hRd.mono ?_
        rintro e3 W3 (⟨rfl, _, hJ3, hk3⟩ | ⟨_, hf, _, _⟩)
        · obtain ⟨hc1, hc2⟩ := HX.out _ _ hJ3
          gi_wp2
          go_roundw
          case rel => exact ⟨4, by decide, by first | rfl | go_num, ⟨hJ3⟩, ⟨HB1.trans hk3⟩⟩
          case measure => simp [intOf]
        · exact hf.elim
      · gi_wp2
        refine wpIn_wide.2 ?_
        refine start_ (n := 7) (S := fun w' => w'.cell? ⟨B2, 0, none⟩ = some (.int .i64 64) ∧ w'.cell? ⟨B1, 0, none⟩ = some (.slice (some ⟨g, 0, none⟩) 384 cap)) (ds := []) #[false, false, false, false, false, false, false] (by kernel_rfl) rfl rfl ⟨hc2, hc1⟩ (fun hHeld => ?_)
        refine pure_ (i := 2) (N := some 15) (v := ?_) (a' := ?_) #[false, false, true, false, false, false, false] rfl rfl (by kernel_rfl) (fun _ _ _ h => h) (Or.inl ⟨by rfl, ?_⟩) ?_ ?_
        rotate_left
        · intro w'
          go_simp
          with_reducible rfl
        rotate_left
        · simp only [Act.put, List.setIfInBounds_toArray, List.set_cons_zero, List.set_cons_succ]
          rfl
        refine take_ (i := 0) (N := some 13) (v := ?_) (a' := ?_) #[true, false, true, false, false, false, false] rfl rfl (by kernel_rfl) (fun _ _ _ h => h) (Or.inl ⟨by rfl, ?_⟩) hHeld ?_ ?_
        rotate_left
        · rintro w' ⟨s0, s1⟩
          go_simp
          with_reducible rfl
        rotate_left
        · simp only [Act.put, List.setIfInBounds_toArray, List.set_cons_zero, List.set_cons_succ]
          rfl
        refine take_ (i := 1) (N := some 14) (v := ?_) (a' := ?_) #[true, true, true, false, false, false, false] rfl rfl (by kernel_rfl) (fun _ _ _ h => h) (Or.inl ⟨by rfl, ?_⟩) hHeld ?_ ?_
        rotate_left
        · rintro w' ⟨s0, s1⟩
          go_simp
          with_reducible rfl
        rotate_left
        · simp only [Act.put, List.setIfInBounds_toArray, List.set_cons_zero, List.set_cons_succ]
          rfl
        refine pure_ (i := 3) (N := some 16) (v := ?_) (a' := ?_) #[true, true, true, true, false, false, false] rfl rfl (by kernel_rfl) (fun _ _ _ h => h) (Or.inl ⟨by rfl, ?_⟩) ?_ ?_
        rotate_left
        · intro w'
          go_simp
          with_reducible rfl
        rotate_left
        · simp only [Act.put, List.setIfInBounds_toArray, List.set_cons_zero, List.set_cons_succ]
          rfl
        refine pure_ (i := 4) (N := some 17) (v := ?_) (a' := ?_) #[true, true, true, true, true, false, false] rfl rfl (by kernel_rfl) (fun _ _ _ h => h) (Or.inl ⟨by rfl, ?_⟩) ?_ ?_
        rotate_left
        · intro w'
          go_simp
          with_reducible rfl
        rotate_left
        · simp only [Act.put, List.setIfInBounds_toArray, List.set_cons_zero, List.set_cons_succ]
          rfl
        refine pure_ (i := 5) (N := some 18) (v := ?_) (a' := ?_) #[true, true, true, true, true, true, false] rfl rfl (by kernel_rfl) (fun _ _ _ h => h) (Or.inl ⟨by rfl, ?_⟩) ?_ ?_
        rotate_left
        · intro w'
          go_simp
          with_reducible rfl
        rotate_left
        · simp only [Act.put, List.setIfInBounds_toArray, List.set_cons_zero, List.set_cons_succ]
          rfl
        refine pure_ (i := 6) (N := some 5) (v := ?_) (a' := ?_) #[true, true, true, true, true, true, true] rfl rfl (by kernel_rfl) (fun _ _ _ h => h) (Or.inl ⟨by rfl, ?_⟩) ?_ ?_
        rotate_left
        · intro w'
          go_simp
          with_reducible rfl
        rotate_left
        · simp only [Act.put, List.setIfInBounds_toArray, List.set_cons_zero, List.set_cons_succ]
          rfl
        refine done_ (by kernel_rfl) ?_
        have HJ1 := HG.out _ _ _ HJ.out (ngrown_of (Below.drew (Below.refl _ _)))
        have HB1 := Below.drew HB.out
        clear hHeld
        generalize wr.drew = wd at HJ1 HB1 ⊢
        obtain ⟨hc1, hc2⟩ := HX.out _ _ HJ1
        obtain ⟨fn, tmps, assign, body, hy, hRd⟩ := HY.out (List.range 4) 4 wd HJ1 (by decide) (by decide)
        simp only [Nat.reduceMul] at hy
        gi_wp2
        refine hRd.mono ?_
        rintro e3 W3 (⟨rfl, _, hJ3, hk3⟩ | ⟨_, hf, _, _⟩)
        · obtain ⟨hc1, hc2⟩ := HX.out _ _ hJ3
          gi_wp2
          go_roundw
          case rel => exact ⟨5, by decide, by first | rfl | go_num, ⟨hJ3⟩, ⟨HB1.trans hk3⟩⟩
          case measure => simp [intOf]
        · exact hf.elim
      · gi_wp2
        refine wpIn_wide.2 ?_
        refine start_ (n := 7) (S := fun w' => w'.cell? ⟨B2, 0, none⟩ = some (.int .i64 64) ∧ w'.cell? ⟨B1, 0, none⟩ = some (.slice (some ⟨g, 0, none⟩) 384 cap)) (ds := []) #[false, false, false, false, false, false, false] (by kernel_rfl) rfl rfl ⟨hc2, hc1⟩ (fun hHeld => ?_)
        refine pure_ (i := 2) (N := some 15) (v := ?_) (a' := ?_) #[false, false, true, false, false, false, false] rfl rfl (by kernel_rfl) (fun _ _ _ h => h) (Or.inl ⟨by rfl, ?_⟩) ?_ ?_
        rotate_left
        · intro w'
          go_simp
          with_reducible rfl
        rotate_left
        · simp only [Act.put, List.setIfInBounds_toArray, List.set_cons_zero, List.set_cons_succ]
          rfl
        refine take_ (i := 0) (N := some 13) (v := ?_) (a' := ?_) #[true, false, true, false, false, false, false] rfl rfl (by kernel_rfl) (fun _ _ _ h => h) (Or.inl ⟨by rfl, ?_⟩) hHeld ?_ ?_
        rotate_left
        · rintro w' ⟨s0, s1⟩
          go_simp
          with_reducible rfl
        rotate_left
        · simp only [Act.put, List.setIfInBounds_toArray, List.set_cons_zero, List.set_cons_succ]
          rfl
        refine take_ (i := 1) (N := some 14) (v := ?_) (a' := ?_) #[true, true, true, false, false, false, false] rfl rfl (by kernel_rfl) (fun _ _ _ h => h) (Or.inl ⟨by rfl, ?_⟩) hHeld ?_ ?_
        rotate_left
        · rintro w' ⟨s0, s1⟩
          go_simp
          with_reducible rfl
        rotate_left
        · simp only [Act.put, List.setIfInBounds_toArray, List.set_cons_zero, List.set_cons_succ]
          rfl
        refine pure_ (i := 3) (N := some 16) (v := ?_) (a' := ?_) #[true, true, true, true, false, false, false] rfl rfl (by kernel_rfl) (fun _ _ _ h => h) (Or.inl ⟨by rfl, ?_⟩) ?_ ?_
        rotate_left
        · intro w'
          go_simp
          with_reducible rfl
        rotate_left
        · simp only [Act.put, List.setIfInBounds_toArray, List.set_cons_zero, List.set_cons_succ]
          rfl
        refine pure_ (i := 4) (N := some 17) (v := ?_) (a' := ?_) #[true, true, true, true, true, false, false] rfl rfl (by kernel_rfl) (fun _ _ _ h => h) (Or.inl ⟨by rfl, ?_⟩) ?_ ?_
        rotate_left
        · intro w'
          go_simp
          with_reducible rfl
        rotate_left
        · simp only [Act.put, List.setIfInBounds_toArray, List.set_cons_zero, List.set_cons_succ]
          rfl
        refine pure_ (i := 5) (N := some 18) (v := ?_) (a' := ?_) #[true, true, true, true, true, true, false] rfl rfl (by kernel_rfl) (fun _ _ _ h => h) (Or.inl ⟨by rfl, ?_⟩) ?_ ?_
        rotate_left
        · intro w'
          go_simp
          with_reducible rfl
        rotate_left
        · simp only [Act.put, List.setIfInBounds_toArray, List.set_cons_zero, List.set_cons_succ]
          rfl
        refine pure_ (i := 6) (N := some 5) (v := ?_) (a' := ?_) #[true, true, true, true, true, true, true] rfl rfl (by kernel_rfl) (fun _ _ _ h => h) (Or.inl ⟨by rfl, ?_⟩) ?_ ?_
        rotate_left
        · intro w'
          go_simp
          with_reducible rfl
        rotate_left
        · simp only [Act.put, List.setIfInBounds_toArray, List.set_cons_zero, List.set_cons_succ]
          rfl
        refine done_ (by kernel_rfl) ?_
        have HJ1 := HG.out _ _ _ HJ.out (ngrown_of (Below.drew (Below.refl _ _)))
        have HB1 := Below.drew HB.out
        clear hHeld
        generalize wr.drew = wd at HJ1 HB1 ⊢
        obtain ⟨hc1, hc2⟩ := HX.out _ _ HJ1
        obtain ⟨fn, tmps, assign, body, hy, hRd⟩ := HY.out (List.range 5) 5 wd HJ1 (by decide) (by decide)
        simp only [Nat.reduceMul] at hy
        gi_wp2
        refine hRd.mono ?_
        rintro e3 W3 (⟨rfl, _, hJ3, hk3⟩ | ⟨_, hf, _, _⟩)
        · obtain ⟨hc1, hc2⟩ := HX.out _ _ hJ3
          gi_wp2
          go_roundw
          case rel => exact ⟨6, by decide, by first | rfl | go_num, ⟨hJ3⟩, ⟨HB1.trans hk3⟩⟩
          case measure => simp [intOf]
        · exact hf.elim
end Go.Proofs.YtpgfafpjfdbjmaaDoor
end
section
namespace Go.Proofs.YtpgfafpjfdbjmaaDoor
open Go.RowKit
section
variable {P : Program}
theorem zeros_cells (m : Nat) : Builtin.zeroCells (Value.int .u8 0).cells m = (Lib.byteCells (List.replicate m 0)).toArray := by
  apply Array.ext'
  simp [Builtin.zeroCells, Lib.byteCells, Value.cells]
  apply List.ext_getElem
  · simp
  · intro i h1 h2
    simp [Nat.mod_one]
theorem run_append_zerosB (w : World) (B : Nat) (t ti ty E : TypeId) (i : TypeInfo) (ht : P.underlying t = some (.slice E)) {k : IntKind} (hti : P.underlying ti = some (.int k)) (hi : P.info? E = some i) (hz : i.zero = some (.int .u8 0)) (hsize : i.size = 1) (hby : i.bytes = 1)
    (g cap : Nat) (l : List UInt8) (hown : RowB B E (.slice (some ⟨g, 0, none⟩) l.length cap) l w) (kx : IntKind) (m : Nat)
    (hlen : l.length + m ≤ 140737488355328) (hbase : B ≤ w.heap.size) :
    ∃ v' w', (Builtin.append_ #[t, ti] ty #[.slice (some ⟨g, 0, none⟩) l.length cap, .int kx m]).run P w = .ok v' w' ∧ RowB B E v' (l ++ List.replicate m 0) w' ∧ w.grownBy w' (some g) := by
  have hm63 : l.length + m ≤ maxLen := by unfold maxLen; omega
  have hw : IntKind.i64.wrap (m : Int) = m := by rw [IntKind.wrap_i64]; omega
  have hw0 : IntKind.i64.wrap 0 = 0 := by rw [IntKind.wrap_i64]; rfl
  have hneg : ¬ ((m : Int) < 0) := by omega
  have hbig : ¬ (281474976710656 < (m : Int) * (i.bytes : Int)) := by rw [hby]; omega
  rcases hown with ⟨h0, _⟩ | ⟨g2, cap2, cur, fz, hv, hbg, hg, hfz, hnc, hcm, hcs, htake⟩
  · cases h0
  obtain ⟨rfl, rfl⟩ : g = g2 ∧ cap = cap2 := by
    injection hv with e1 e2 e3
    injection e1 with e1
    injection e1 with e1
    exact ⟨e1, e3⟩
  obtain ⟨news, hnews⟩ : ∃ news, news = Lib.byteCells (List.replicate m 0) := ⟨_, rfl⟩
  have hl : news.length = m := by rw [hnews, Lib.byteCells_length, List.length_replicate]
  have hna : Builtin.zeroCells (Value.int .u8 0).cells m = news.toArray := by rw [zeros_cells, hnews]
  have h1 : ∀ u ∈ news, u.oneCell' = true := by rw [hnews]; exact byteCells_one _
  by_cases hroom : l.length + m ≤ cap
  · have hst := run_storeCells_free (P := P) g E fz news (l.length * 1) 0 cur w hg (fun k hk1 hk2 => hfz k (by omega) (by omega)) (by omega) h1
    simp only [Nat.add_zero, Nat.mul_one] at hst
    have hr : (Builtin.append_ #[t, ti] ty #[.slice (some ⟨g, 0, none⟩) l.length cap, .int kx m]).run P w = .ok (.slice (some ⟨g, 0, none⟩) (l.length + m) cap) (w.setRow g (cur.toList.take l.length ++ news ++ cur.toList.drop (l.length + news.length)).toArray) := by
      by_cases hm : m = 0
      · subst hm
        have hnl : news = [] := List.eq_nil_of_length_eq_zero hl
        subst hnl
        simp only [List.length_nil, Nat.add_zero] at hst
        simp [Builtin.append_, run_underlying ht, run_underlying hti, sizeOf, typeInfo, hi, asInt, asIntOf, hw0, hnc, hst, hsize, Addr.add_lit]
      · simp [Builtin.append_, run_underlying ht, run_underlying hti, sizeOf, typeInfo, zeroValue, hi, hz, asInt, asIntOf, hw, hneg, hbig, hroom, hna, Addr.add_lit, hst, hsize, hm]
    refine ⟨_, _, hr, .inr ⟨g, cap, _, fz, by rw [List.length_append, List.length_replicate], hbg, setRow_heap w g cur _ E _ hg, fun k hk1 hk2 => hfz k (by rw [List.length_append] at hk1; omega) hk2, by rw [List.length_append, List.length_replicate]; exact hroom, hcm, ?_, ?_⟩, ⟨rfl, rfl, rfl, by simp, fun k _ hk => setRow_other w g k _ (fun e => hk (by rw [e]))⟩⟩
    · simp only [List.size_toArray, List.length_append, List.length_take, List.length_drop, Array.length_toList]
      omega
    · rw [htake, hnews, Lib.byteCells_append]
      have : (l ++ List.replicate m 0).length = (Lib.byteCells l ++ Lib.byteCells (List.replicate m 0)).length := by simp [Lib.byteCells_length]
      rw [this]
      exact List.take_left
  · have hm : ¬ m = 0 := by omega
    have holds : ∀ j u, (Lib.byteCells l)[j]? = some u → w.drew.cell? ((⟨g, 0, none⟩ : Addr).add j) = some u := by
      intro j u hj
      simp only [Lib.byteCells, List.getElem?_map, Option.map_eq_some_iff] at hj
      obtain ⟨x, hx, rfl⟩ := hj
      have hadd : (⟨g, 0, none⟩ : Addr).add j = ⟨g, j, none⟩ := by unfold Addr.add; split <;> simp_all
      rw [hadd]
      exact RowB.cells (B := B) (E := E) (v := .slice (some ⟨g, 0, none⟩) l.length cap) (.inr ⟨g, cap, cur, fz, rfl, hbg, hg, hfz, hnc, hcm, hcs, htake⟩) rfl j x hx
    have hfo := run_firstCells_some (P := P) w.drew 1 l.length ⟨g, 0, none⟩ l.length cap (Lib.byteCells l) (by rw [Lib.byteCells_length, Nat.mul_one]) holds
    have hn : ¬ (l.length + m ≤ cap) := hroom
    have h63' : ¬ (9223372036854775807 < ((l.length : Int) + (m : Int))) := by omega
    have hfit := growslice_fits (need := l.length + m) (old := cap) (bytes := i.bytes) (by omega) (by rw [hby]; omega)
    have h48' : ¬ (281474976710656 < Builtin.nextslicecap (l.length + m) cap * i.bytes) := by omega
    have hr : (Builtin.append_ #[t, ti] ty #[.slice (some ⟨g, 0, none⟩) l.length cap, .int kx m]).run P w = .ok (.slice (some ⟨w.heap.size, 0, none⟩) (l.length + m) (grownCap w (l.length + m) cap E)) (w.drew.alloc (.cells ((Lib.byteCells l).toArray ++ news.toArray ++ Builtin.zeroCells (Value.int .u8 0).cells (grownCap w (l.length + m) cap E - (l.length + m))) E)) := by
      simp [Builtin.append_, run_underlying ht, run_underlying hti, sizeOf, typeInfo, zeroValue, hi, hz, asInt, asIntOf, hw, hneg, hbig, hn, h63', h48', Question.forced, hfo, newRow, grownCap, hm, hna, hsize]
      congr 2
      apply Array.ext'
      simp [List.append_assoc]
    have hge := grownCap_ge w (l.length + m) cap E
    have hcm2 : grownCap w (l.length + m) cap E ≤ maxLen := grownCap_le_maxLen w (l.length + m) cap E hm63
    refine ⟨_, _, hr, .inr ⟨w.heap.size, _, _, (0, 0), by rw [List.length_append, List.length_replicate], hbase, heap_alloc_new w.drew _, fun _ _ _ _ => by omega, by rw [List.length_append, List.length_replicate]; exact hge, hcm2, ?_, ?_⟩, ⟨rfl, rfl, rfl, by simp, fun k hk _ => Lib.alloc_old w.drew _ k hk⟩⟩
    · simp only [Array.size_append, List.size_toArray, size_zeroCells, Lib.byteCells_length, hl]
      have : (Value.int IntKind.u8 0).cells.size = 1 := rfl
      rw [this]
      omega
    · simp only [Array.toList_append, List.append_assoc]
      rw [hnews, ← List.append_assoc, ← Lib.byteCells_append]
      have : (l ++ List.replicate m 0).length = (Lib.byteCells (l ++ List.replicate m 0)).length := by rw [Lib.byteCells_length]
      rw [this]
      exact List.take_left
end
end Go.Proofs.YtpgfafpjfdbjmaaDoor
end
section
namespace Go.Proofs.YtpgfafpjfdbjmaaDoor
open Go.RowKit Q Go.Proofs.YtpgfafpjfdbjmaaDoorW.PrintWords Go.Proofs.YtpgfafpjfdbjmaaDoorW.PrintLast Go.Proofs.YtpgfafpjfdbjmaaDoorW.PrintMore
attribute [local go_sem] Oper.semAt_some
section
variable {F : Fence} {n : Nat} {P : Program} {ops : Array Oper} {rest : List Oper} {o : Oper} {a : Act} {Q : Exit → Act → World → Prop} {W : World}
theorem nwpListIn_append (hgd : o.guard = none) (s x : Operand) (t u : TypeId) (hop : o.op = .call { callee := .builtin .append, args := #[s, x], argTypes := #[t, u] }) (v y v1 : Value) (w1 : World) (hs : a.eval s = v) (hx : a.eval x = y)
    (hrun : (Builtin.append_ #[t, u] o.type #[v, y]).run P W = .ok v1 w1) (h : wpListIn F n P ops Q rest (a.put o.dst v1) w1) : wpListIn F n P ops Q (o :: rest) a W := by
  refine wpListIn_plain hgd fun K hK => ?_
  unfold Oper.wpIn
  refine ⟨?_, ?_⟩
  · simp [Oper.about, hop, resolve, Target.leads, Sem.run_pure]
  · rw [Oper.semAt_plain F _ _ (by rw [hop]; intro c hc'; cases hc')]
    simp [execOp, hop, resolve, invoke, builtin, hs, hx, hrun, Result.andThen]
    exact hK _ _ h
theorem nappend_str (hgd : o.guard = none) (s x : Operand) (t e : TypeId) (hop : o.op = .call { callee := .builtin .append, args := #[s, x], argTypes := #[t, t] }) (hu : P.underlying t = some (.slice e)) (hi : (P.info? e).map (fun i => (i.zero, i.size, i.bytes)) = some (some (.string ⟨#[]⟩), 1, 16))
    (base : Nat) (v : Value) (L : List ByteArray) (hs : a.eval s = v) (p : ByteArray) (hx : a.eval x = .slice (some ⟨W.heap.size, 0, none⟩) 1 1) (HO : Kd.R Kd.string e W base (fun k => base ≤ k) v L) (hbase : base ≤ W.heap.size) (hl : (L.length + 1) * 16 ≤ 140737488355328)
    (h : ∀ v1 w1, Kd.R Kd.string e w1 base (fun k => base ≤ k) v1 (L ++ [p]) → W.grownBy w1 v.ownBlock → wpListIn F n P ops Q rest (a.put o.dst v1) w1) : wpListIn F n P ops Q (o :: rest) a (W.alloc (.cells #[.string p] e)) := by
  obtain ⟨i0, hi0, hzz⟩ := Option.map_eq_some_iff.1 hi
  simp only [Prod.mk.injEq] at hzz
  obtain ⟨hz0, hz1, hz2⟩ := hzz
  have hown := Kd.own_of_R (h1 := fun _ => rfl) HO
  refine wpListIn_append_own (W.alloc (.cells #[.string p] e)) hgd s x t hop base e i0 (.string ⟨#[]⟩) 1 16 hu hi0 hz0 hz1 hz2 rfl (by decide) v L.length (encs Value.string L) hs (hown.alloc _) ⟨W.heap.size, 0, none⟩ 1 1 [.string p] hx rfl
    (by
      intro j u hj
      match j, hj with
      | 0, hj =>
        cases hj
        exact (Blk.new W #[.string p] e).cell (i := 0) rfl) (fun u hu => by simp only [List.mem_singleton] at hu; subst hu; rfl) (by simp only [maxLen]; omega) hl (by simp; omega) ?_
  intro v' w' r1 r2 _
  have r1' : w'.ownsRow base e 1 v' (L ++ [p]).length (encs Value.string (L ++ [p])) := by
    rw [List.length_append, encs_append]
    exact r1
  exact h v' w' (Kd.R_of_own r1' (fun k hk => own_base r1' k hk)) (World.grownBy.trans (World.grownBy_alloc W _ v.ownBlock) r2)
end
def padN (s : List UInt8) : List UInt8 := s ++ List.replicate (384 - s.length) 0
def partN (s : List UInt8) (i : Nat) : ByteArray := B (((padN s).drop (64 * i)).take 64)
def shR (s : List UInt8) : List ByteArray × Int := if 384 < s.length then ([], 12) else ([0, 1, 2, 3, 4, 5].map (partN s), 0)
theorem padN_len (s : List UInt8) (h : s.length ≤ 384) : (padN s).length = 384 := by
  unfold padN
  rw [List.length_append, List.length_replicate]
  omega
theorem ninfoS : (Tryd.prog.info? 9).map (fun i => (i.zero, i.size, i.bytes)) = some (some (.string ⟨#[]⟩), 1, 16) := by kernel_rfl
theorem ninfoU0 : (Tryd.prog.info? 5).map (fun i => (i.zero, i.size, i.bytes)) = some (some (.int .u8 0), 1, 1) := by kernel_rfl
theorem ninfoU : ∃ i, Tryd.prog.info? 5 = some i ∧ i.zero = some (.int .u8 0) ∧ i.size = 1 ∧ i.bytes = 1 := by
  obtain ⟨i0, hi0, hzz⟩ := Option.map_eq_some_iff.1 ninfoU0
  simp only [Prod.mk.injEq] at hzz
  exact ⟨i0, hi0, hzz⟩
structure Sh (BL B1 B2 g cap : Nat) (s : List UInt8) (w0 : World) (v : Value) (L : List ByteArray) (W : World) : Prop where
  bl : Boxed W BL 49 v
  b1 : Boxed W B1 59 (.slice (some ⟨g, 0, none⟩) 384 cap)
  b2 : Boxed W B2 3 (.int .i64 64)
  ro : RowB w0.heap.size 5 (.slice (some ⟨g, 0, none⟩) (padN s).length cap) (padN s) W
  ol : Kd.R Kd.string 9 W w0.heap.size (fun k => w0.heap.size ≤ k) v L
  bw : Below w0.heap.size w0 W
  gL : w0.heap.size ≤ BL
theorem rowB_typed {B : Nat} {E : TypeId} {v : Value} {l : List UInt8} {W : World} (h : RowB B E v l W) : ∀ k, v.ownBlock = some k → ∃ cells fz, W.heap[k]? = some (.cells cells E fz) := by
  intro k hk
  rcases h with ⟨rfl, _⟩ | ⟨g, cap, cur, fz, rfl, _, hg, _⟩
  · cases hk
  · injection hk with hk
    exact ⟨cur, fz, by rw [← hk]; exact hg⟩
section
variable {BL B1 B2 g cap : Nat} {s : List UInt8} {w0 W W1 : World} {v : Value} {L : List ByteArray}
theorem Sh.below (h : Sh BL B1 B2 g cap s w0 v L W) (b : Below W.heap.size W W1) : Sh BL B1 B2 g cap s w0 v L W1 :=
  have hg := ngrown_below b none
  { h with
    bl := h.bl.kept hg (by simp)
    b1 := h.b1.kept hg (by simp)
    b2 := h.b2.kept hg (by simp)
    ro := h.ro.below b
    ol := Kd.R_below h.ol b
    bw := below2 h.bw h.bw.size b }
theorem Sh.calm (h : Sh BL B1 B2 g cap s w0 v L W) {row : Option Nat} (hg : W.grownBy W1 row) (hr : ∀ r, row = some r → w0.heap.size ≤ r ∧ ∃ o : Obj, W.heap[r]? = some o ∧ o.isCells = false) : Sh BL B1 B2 g cap s w0 v L W1 :=
  have hr2 := fun r e => (hr r e).2
  { h with
    bl := nblk_calm h.bl hg hr2
    b1 := nblk_calm h.b1 hg hr2
    b2 := nblk_calm h.b2 hg hr2
    ro := h.ro.grown hg (fun k hk e => by
      obtain ⟨cells, fz, hc⟩ := rowB_typed h.ro k hk
      obtain ⟨o, ho, hn⟩ := hr2 k e.symm
      rw [hc] at ho
      cases ho
      cases hn)
    ol := nR_calm h.ol hg hr2
    bw := h.bw.grown hg h.bw.size (fun k e => (hr k e).1) }
theorem Sh.put (h : Sh BL B1 B2 g cap s w0 v L W) {y : Value} {p : ByteArray} (hR : Kd.R Kd.string 9 W1 w0.heap.size (fun k => w0.heap.size ≤ k) y (L ++ [p])) (hg : W.grownBy W1 v.ownBlock) : Sh BL B1 B2 g cap s w0 y (L ++ [p]) (W1.setCell ⟨BL, 0, none⟩ y) :=
  have hr : ∀ k, v.ownBlock = some k → ∃ cells, W.heap[k]? = some (.cells cells 9 (0, 0)) := fun k e => Kd.R_typed h.ol k e
  have hbl := nbox_step h.bl hg _ hr (by decide)
  have g2 := ngrown_set W1 BL 0 y
  have q2 : ∀ k, some BL = some k → ∃ cells, W1.heap[k]? = some (.cells cells 49 (0, 0)) := fun k e => by injection e with e; subst e; exact ⟨_, hbl⟩
  have h1 : RowB w0.heap.size 5 (.slice (some ⟨g, 0, none⟩) (padN s).length cap) (padN s) W1 := h.ro.grown hg (fun k hk e => by
      obtain ⟨cells, fz, hc⟩ := rowB_typed h.ro k hk
      obtain ⟨c2, hc2⟩ := hr k e.symm
      rw [hc] at hc2
      injection hc2 with hc2
      injection hc2 with _ hc2
      exact absurd hc2 (by decide))
  { h with
    bl := hbl.set y
    b1 := nbox_step (nbox_step h.b1 hg _ hr (by decide)) g2 _ q2 (by decide)
    b2 := nbox_step (nbox_step h.b2 hg _ hr (by decide)) g2 _ q2 (by decide)
    ro := h1.grown g2 (fun k hk e => by
      obtain ⟨cells, fz, hc⟩ := rowB_typed h1 k hk
      obtain ⟨c2, hc2⟩ := q2 k e.symm
      rw [hc] at hc2
      injection hc2 with hc2
      injection hc2 with _ hc2
      exact absurd hc2 (by decide))
    ol := nR_step hR g2 _ q2 (fun q hq => by rcases List.mem_cons.1 hq with rfl | hq; decide; cases hq)
    bw := (h.bw.grown hg h.bw.size (fun k e => h.ol.1 k e)).setCell (p := ⟨BL, 0, none⟩) h.gL _ }
end
set_option maxRecDepth 100000 in
set_option maxHeartbeats 2000000 in
theorem nshards_calls (s : List UInt8) (w : World) : Calls Tryd.prog 23 #[.string (B s)] w fun e w' => ∃ v0 : Value, e = .returned (.tuple #[v0, .int .i64 (shR s).2]) ∧ Kd.R Kd.string 9 w' w.heap.size (fun _ => True) v0 (shR s).1 ∧ Below w.heap.size w w' := by
  refine (callsIn_wide (n := 5)).1 ?_
  refine callsIn_of_wp_marks Tryd.func23 rfl trivial ?_ rfl
  simp only [Tryd.ntmps23, List.size_toArray, List.length_cons, List.length_nil, Nat.reduceAdd, Nat.reduceSub, Array.replicate_succ, Array.replicate_zero, List.push_toArray, List.append_toArray, List.nil_append, List.cons_append]
  have hF : Fence.wide.fn 42 := trivial
  by_cases hs : 384 < s.length
  case pos =>
    have hs2 : 384 < (B s).size := by rw [B_size]; exact hs
    have hr : shR s = ([], 12) := if_pos hs
    gi_wp2
    refine ⟨_, results_tmp2 rfl _ _ _, _, by rw [hr]; rfl, by rw [hr]; exact Kd.R_nil _ _ _ _ _, Below.refl _ _⟩
  case neg =>
    have hs2 : ¬ 384 < (B s).size := by rw [B_size]; exact hs
    have hsl : s.length ≤ 384 := by omega
    have hr : shR s = ([0, 1, 2, 3, 4, 5].map (partN s), 0) := if_neg hs
    have hcv := fun (W : World) => Lib.run_convert_string_bytes (P := Tryd.prog) W 9 59 5 (B s) Tryd.underlying9 Tryd.underlying59 Tryd.underlying5
    obtain ⟨i0, hi0, hz0, hz1, hz2⟩ := ninfoU
    have hO0 := RowB.bytes (w.alloc (.cells #[.slice none 0 0] 49)) 5 (B s) (by rw [B_size]; unfold maxLen; omega)
    have hb0 := RowB.bytesBelow (w.alloc (.cells #[.slice none 0 0] 49)) 5 (B s)
    rw [B_data, B_size, World.size_alloc] at hO0
    obtain ⟨v1, w1, hrun, hO1, hg1⟩ := run_append_zerosB (P := Tryd.prog) _ (w.heap.size + 1) 59 3 59 5 i0 Tryd.underlying59 Tryd.underlying3 hi0 hz0 hz1 hz2 (w.heap.size + 1) _ s hO0 .i64 (384 - s.length) (by omega) (by rw [Lib.bytesWorld_size, World.size_alloc]; exact Nat.le_succ _)
    have hpad : s ++ List.replicate (384 - s.length) 0 = padN s := rfl
    rw [hpad] at hO1
    have hp384 := padN_len s hsl
    obtain ⟨g, cap, rfl, hge, hglt, hcap, hcm⟩ := hO1.ne (by intro e; rw [e] at hp384; cases hp384)
    have hB1 : Below w.heap.size w w1 := ((below_alloc (Below.refl _ w) _).trans (hb0.mono (by rw [World.size_alloc]; exact Nat.le_succ _))).grown hg1 (by rw [Lib.bytesWorld_size, World.size_alloc]; omega) (fun k e => by injection e with e; omega)
    have hL1 : Boxed w1 w.heap.size 49 (.slice none 0 0) := ((Boxed.new w 49 (.slice none 0 0)).kept (ngrown_below hb0 none) (by simp)).kept hg1 (fun e => by injection e with e; omega)
    have hi2 : ((384 - s.length : Nat) : Int) = 384 - ((B s).size : Int) := by rw [B_size]; omega
    rw [hi2, ← B_size s] at hrun
    rw [hp384] at hrun
    gi_wp2_with (first | (gi_at_builtin; refine nwpListIn_append rfl (.tmp 11) (.tmp 14) 59 3 rfl _ _ _ _ rfl rfl hrun ?_) | (gi_at_call 42; refine (chunk_calls g cap _ _).mono ?_; rintro e w' ⟨rfl, rfl⟩))
    have hbb : Below w1.heap.size w1 ((w1.alloc (.cells #[.slice (some ⟨g, 0, none⟩) 384 cap] 59)).alloc (.cells #[.int .i64 64] 3)) := below_alloc (below_alloc (Below.refl _ w1) _) _
    have hx2 := Boxed.new (w1.alloc (.cells #[.slice (some ⟨g, 0, none⟩) 384 cap] 59)) 3 (.int .i64 64)
    rw [World.size_alloc] at hx2
    have G : Sh w.heap.size w1.heap.size (w1.heap.size + 1) g cap s w (.slice none 0 0) [] ((w1.alloc (.cells #[.slice (some ⟨g, 0, none⟩) 384 cap] 59)).alloc (.cells #[.int .i64 64] 3)) :=
      ⟨hL1.kept (ngrown_below hbb none) (by simp), (Boxed.new w1 _ _).alloc _, hx2, (hO1.below hbb).raise (Nat.le_succ _), Kd.R_nil _ _ _ _ _, below2 hB1 hB1.size hbb, Nat.le_refl _⟩
    generalize (w1.alloc (.cells #[.slice (some ⟨g, 0, none⟩) 384 cap] 59)).alloc (.cells #[.int .i64 64] 3) = W0 at G ⊢
    have hn0 : w.heap.size ≤ W0.heap.size := G.bw.size
    refine wpIn_range_stops rfl (by decide) (gf := 60) (lb := #[.pointer (some ⟨w1.heap.size, 0, none⟩), .pointer (some ⟨w1.heap.size + 1, 0, none⟩)]) rfl trivial (enters_of Tryd.func60 (by kernel_rfl) rfl) (encs := fun x : Nat => #[.slice (some ⟨g, 64 * x, none⟩) 64 64]) (fun x _ => x < 6) (fun _ => False) (fun ys => ys = [0, 1, 2, 3, 4, 5]) (fun _ => False) 6 w.heap.size (fun W => W.cell? ⟨w1.heap.size, 0, none⟩ = some (.slice (some ⟨g, 0, none⟩) 384 cap) ∧ W.cell? ⟨w1.heap.size + 1, 0, none⟩ = some (.int .i64 64)) hn0 (fun _ => rfl) ?seq (fun pre W => ∃ v, Sh w.heap.size w1.heap.size (w1.heap.size + 1) g cap s w v (pre.map (partN s)) W) (fun _ _ => False) ?own (fun _ _ _ _ h _ _ => h) ?bx ⟨_, G⟩ (fun pre x a' W => ∃ v, x < 6 ∧ pre.length < 6 ∧ a' = { tmps := #[.string (B s), undef, .slice none 0 0, .int .i64 0, .pointer (some ⟨w.heap.size, 0, none⟩), .slice (some ⟨g, 0, none⟩) 384 cap, .slice (some ⟨g, 64 * x, none⟩) 64 64, .string (B s), .int .i64 ((B s).size : Int), .bool (decide (384 < ((B s).size : Int))), .string (B s), .slice (some ⟨w.heap.size + 1, 0, none⟩) (B s).size (grownCap (w.alloc (.cells #[.slice none 0 0] 49)) (B s).size 0 5), .string (B s), .int .i64 ((B s).size : Int), .int .i64 (384 - ((B s).size : Int)), .slice (some ⟨g, 0, none⟩) 384 cap, .slice (some ⟨g, 0, none⟩) 384 cap, .func (.func 60) #[] #[.pointer (some ⟨w1.heap.size, 0, none⟩), .pointer (some ⟨w1.heap.size + 1, 0, none⟩)], .slice (some ⟨g, 64 * x, none⟩) 64 64, undef, undef, undef, undef, undef, undef], defers := [] } ∧ Sh w.heap.size w1.heap.size (w1.heap.size + 1) g cap s w v (pre.map (partN s)) W) ?ax ?assign ?body ?done (fun _ _ _ _ hf _ _ => hf.elim)
    case seq =>
      intro lq J Jx W hW hJ hJx hBx hY h0
      exact (chunk_in _ (by decide) lq w1.heap.size (w1.heap.size + 1) g cap (by rw [← hp384]; exact hcap) w J Jx hJ hBx hY W (below2 G.bw hn0 hW) h0).mono (fun e W' h => ⟨h.1, h.2.imp id (fun ⟨ys, hf, _⟩ => hf.elim)⟩)
    case own =>
      rintro pre X Y row ⟨v, h⟩ hg hr
      exact ⟨v, h.calm hg (fun r e => ⟨Nat.le_trans hn0 (hr r e).1, (hr r e).2⟩)⟩
    case bx =>
      rintro ys X ⟨v, h⟩
      exact ⟨h.b1.cell, h.b2.cell⟩
    case ax =>
      rintro pre x a' _ X Y row ⟨v, h1, h2, h3, h4⟩ hg hr
      exact ⟨v, h1, h2, h3, h4.calm hg (fun r e => ⟨Nat.le_trans hn0 (hr r e).1, (hr r e).2⟩)⟩
    case assign =>
      rintro lq pre x W K ⟨v, HG⟩ hv hN hK
      gi_wp2
      exact hK _ _ ⟨Nat.le_refl _, fun _ _ _ hk _ => hk⟩ (Below.refl _ _) ⟨v, hv, hN, rfl, HG⟩
    case body =>
      rintro lq pre x a' W ⟨v, hx, hpl, rfl, HG⟩
      have hc := HG.bl.cell
      have hl64 : (((padN s).drop (64 * x)).take 64).length = 64 := by rw [List.length_take, List.length_drop, hp384]; omega
      have hcv2 := run_string_bytes (P := Tryd.prog) W 59 9 5 Tryd.underlying59 Tryd.underlying5 Tryd.underlying9 g (64 * x) 64 (((padN s).drop (64 * x)).take 64) (fun j y hj => by
        have h1 : (padN s)[64 * x + j]? = some y := by
          rw [List.getElem?_take] at hj
          split at hj
          · rw [List.getElem?_drop] at hj; exact hj
          · cases hj
        exact HG.ro.cells (g := g) rfl _ _ h1)
      rw [hl64] at hcv2
      replace hcv2 : (convert 59 9 (.slice (some ⟨g, 64 * x, none⟩) 64 64)).run Tryd.prog W = .ok (.string (partN s x)) W := hcv2
      clear hcv
      gi_wp2_with (gi_at_builtin; refine nappend_str rfl (.tmp 19) (.tmp 22) 49 9 rfl Tryd.underlying49 ninfoS w.heap.size v (pre.map (partN s)) rfl (partN s x) rfl HG.ol HG.bw.size (by rw [List.length_map]; omega) ?_; intro y1 w5 hR hg5; obtain ⟨A1, n1, c1, rfl⟩ : ∃ A1 n1 c1, y1 = .slice A1 n1 c1 := (by obtain ⟨A1, c1, e⟩ := Kd.R_slice hR; exact ⟨A1, _, c1, e⟩); have hbl5 : Boxed w5 w.heap.size 49 v := nbox_step HG.bl hg5 _ (fun k e => Kd.R_typed HG.ol k e) (by decide); have hc5 := hbl5.cell; have hf5 := hbl5.frozen)
      have hfin := HG.put hR hg5
      have bk : KeepsFrom W0.heap.size W (w5.setCell ⟨w.heap.size, 0, none⟩ (.slice A1 n1 c1)) := (nkeeps_typed hg5 (fun k e => Kd.R_typed HG.ol k e)).trans ((KeepsOthers.setCell w5 ⟨w.heap.size, 0, none⟩ (.slice A1 n1 c1)).from W0.heap.size)
      exact ⟨bk, nbelow_between HG.bw hfin.bw bk.size, .slice A1 n1 c1, hfin⟩
    case done =>
      rintro D ys W hD hS ⟨v, HG⟩ hK
      subst hS
      have hc := HG.bl.cell
      gi_wp2
      refine ⟨by simp, .inl ⟨_, _, rfl, run_takeDeferred hK, ?_⟩⟩
      have hfin := HG.calm (grownBy_putObj' W D (.deferred none)) (fun r e' => by cases e'; exact ⟨Nat.le_trans hn0 hD, _, hK, rfl⟩)
      refine ⟨_, results_tmp2 rfl _ _ _, v, by rw [hr]; rfl, ?_, hfin.bw⟩
      rw [hr]
      exact Kd.R_mono hfin.ol (fun _ _ => trivial)
def needle_Shards.f (a0 : ByteArray) : Option (List ByteArray × Int) := some (shR a0.data.toList)
theorem needle_Shards.calls (a0 : ByteArray) (r1 : List ByteArray) (r2 : Int) (w : World) (h : needle_Shards.f a0 = some (r1, r2)) :
    Calls Tryd.prog 23 #[.string a0] w fun e w' => ∃ v0_ : Value, e = .returned (.tuple #[v0_, .int .i64 r2]) ∧ Kd.R Kd.string 9 w' w.heap.size (fun _ => True) v0_ r1 ∧ Below w.heap.size w w' := by
  have e := Option.some.inj h
  have := nshards_calls a0.data.toList w
  rw [B_eta, e] at this
  exact this
end Go.Proofs.YtpgfafpjfdbjmaaDoor
end
