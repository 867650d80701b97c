/- Lemmas for the law StripeWrites, merged out of several texts and cut down to what it names, by a program of this session (some of the first ones are of the words that print.sh wrote for this claim). -/
import Derived.Lib.Hide
import Derived.WalkSpells
import Derived.WalkLawsBesides
import Derived.Laws.Tables
import Derived.Laws.Rows
import Derived.Maps.OwnSet
import Derived.RangeFuncNested
import Derived.Test.YtdcfonmjbelgbaaGreatDoorProg
import Derived.RangeFuncLeaves
import Derived.Shelf.Abstract
import Derived.OwnWalkIn
import Derived.TacticsInMore
import Derived.LoopNIn
import Derived.LoopIn
import Derived.Lib.ConvBytes
import Derived.Test.YtdcfonmjbelgbaaGreatDoorKStripeWrites1
import Derived.Test.YtdcfonmjbelgbaaGreatDoorKStripeWrites2
import Derived.Test.YtdcfonmjbelgbaaGreatDoorKStripeWrites3
import Derived.Test.YtdcfonmjbelgbaaGreatDoorKStripeWrites4
set_option linter.unusedVariables false
set_option linter.unusedSimpArgs false
section
namespace Go.Proofs.YtdcfonmjbelgbaaGreatDoor
open Go.RowKit Q Go.Proofs.YtdcfonmjbelgbaaGreatDoorW.PrintWords Go.Proofs.YtdcfonmjbelgbaaGreatDoorW.PrintLast Go.Proofs.YtdcfonmjbelgbaaGreatDoorW.PrintMore
attribute [local go_sem] Oper.semAt_some
theorem there_calls (A : Option Addr) (m c : Nat) (w : World) (n : Nat) : CallsIn Fence.wide n Tryz.prog 74 #[.slice A m c] w fun e w' => e = .returned (.func (.func 94) #[] #[.pointer (some ⟨w.heap.size, 0, none⟩)]) ∧ w' = w.alloc (.cells #[.slice A m c] 65) := by
  refine callsIn_of_wp Tryz.func74 rfl trivial ?_ rfl
  simp only [Tryz.ntmps74, List.size_toArray, List.length_cons, List.length_nil, Nat.reduceAdd, Nat.reduceSub, Array.replicate_succ, Array.replicate_zero, List.push_toArray, List.append_toArray, List.nil_append, List.cons_append]
  gi_wp2
  go_ret
  exact ⟨rfl, rfl⟩
theorem Fi.start {g : Nat} {S : Value} {w : World} {x : Value} : Fi g w.heap.size (w.heap.size + 1) (w.heap.size + 1 + 1) (w.heap.size + 1 + 1 + 1) S w (.slice none 0 0) (.slice none 0 0) (.slice none 0 0) (.slice none 0 0) [] [] [] (((((w.alloc (.cells #[.pointer (some ⟨g, 0, none⟩)] 55)).alloc (.cells #[S] 27)).alloc (.cells #[.slice none 0 0] 27)).alloc (.cells #[.slice none 0 0] 122)).alloc (.cells #[x] 65)) := by
  have e1 : (w.alloc (.cells #[.pointer (some ⟨g, 0, none⟩)] 55)).heap.size = w.heap.size + 1 := by simp
  have e2 : ((w.alloc (.cells #[.pointer (some ⟨g, 0, none⟩)] 55)).alloc (.cells #[S] 27)).heap.size = w.heap.size + 1 + 1 := by simp
  have e3 : (((w.alloc (.cells #[.pointer (some ⟨g, 0, none⟩)] 55)).alloc (.cells #[S] 27)).alloc (.cells #[.slice none 0 0] 27)).heap.size = w.heap.size + 1 + 1 + 1 := by simp
  have b1 := Boxed.new w 55 (.pointer (some ⟨g, 0, none⟩))
  have b2 := Boxed.new (w.alloc (.cells #[.pointer (some ⟨g, 0, none⟩)] 55)) 27 S
  have b3 := Boxed.new ((w.alloc (.cells #[.pointer (some ⟨g, 0, none⟩)] 55)).alloc (.cells #[S] 27)) 27 (.slice none 0 0)
  have b4 := Boxed.new (((w.alloc (.cells #[.pointer (some ⟨g, 0, none⟩)] 55)).alloc (.cells #[S] 27)).alloc (.cells #[.slice none 0 0] 27)) 122 (.slice none 0 0)
  rw [e1] at b2
  rw [e2] at b3
  rw [e3] at b4
  refine ⟨(((b1.alloc _).alloc _).alloc _).alloc _, ((b2.alloc _).alloc _).alloc _, (b3.alloc _).alloc _, b4.alloc _, Kd.R_nil _ _ _ _ _, Kd.R_nil _ _ _ _ _, rfl, fun i hi => absurd hi (Nat.not_lt_zero i), by simp, fun x hx => absurd hx (by simp), below_alloc (below_alloc (below_alloc (below_alloc (below_alloc (Below.refl _ w) _) _) _) _) _, by omega, by omega, by omega⟩
theorem Fi.br1 {g Bt Bs BL BR : Nat} {S : Value} {w0 W : World} {uL uR vL vR : Value} {LL : List ByteArray} {IX P : List Nat} (h : Fi g Bt Bs BL BR S w0 uL uR vL vR LL IX P W) (v : Value) : Boxed (W.setCell ⟨BL, 0, none⟩ v) BR 122 uR :=
  box_step_typed h.br (grown_set W BL 0 v) 27 (fun k e => by injection e with e; subst e; exact ⟨_, h.bl⟩) (by decide)
theorem R_calm2 {α : Type} {d : Kd α} {e base : Nat} {ok : Nat → Prop} {X Y : World} {v : Value} {xs : List α} {row : Option Nat} (h : d.R e X base ok v xs) (hg : X.grownBy Y row) (hr : ∀ r, row = some r → ∃ o : Obj, X.heap[r]? = some o ∧ o.isCells = false) : d.R e Y base ok v xs :=
  Kd.R_mono (Kd.R_move (Kd.R_bound h) (fun k hk => hg.block k hk.2.2.1 (fun e' => by
    obtain ⟨_, _, _, q, _, cells, hc⟩ := hk
    obtain ⟨o, ho, hn⟩ := hr k e'.symm
    rw [hc] at ho
    cases ho
    cases hn))) (fun _ hk => hk.1)
theorem evenB_take {l : List ByteArray} (h : evenB l = true) (k : Nat) (hk : 0 < k) : evenB (l.take k) = true := by
  unfold evenB
  rw [List.all_eq_true]
  intro s hs
  rw [take_wid l k hk]
  have := evenB_size h (List.mem_of_mem_take hs)
  simpa using this
theorem strAt_map (l : List ByteArray) (IX : List Nat) (i : Nat) (hi : i < IX.length) : strAt (IX.map (strAt l)) i = strAt l (IX.getD i 0) := by
  unfold strAt
  rw [List.getD_eq_getElem?_getD, List.getElem?_map, List.getElem?_eq_getElem hi, List.getD_eq_getElem?_getD (l := IX), List.getElem?_eq_getElem hi]
  rfl
theorem str_now {w W : World} {ad : Addr} {l : List ByteArray} {i : Nat} {s : ByteArray} (hC : Kd.C Kd.string w (some ad) l.length l) (b : Below w.heap.size w W) (hs : i < l.length ∧ strAt l i = s) : W.cell? (ad.add i) = some (.string s) := by
  obtain ⟨ad2, e, hc⟩ := strs_at hC i hs.1
  cases e
  rw [hs.2] at hc
  exact (b.cell (World.block_lt_of_cell? _ _ hc)).trans hc
theorem below_between {n : Nat} {w W W1 : World} (b1 : Below n w W) (b2 : Below n w W1) (hs : W.heap.size ≤ W1.heap.size) : Below n W W1 :=
  ⟨b2.os.trans b1.os.symm, b2.tape.trans b1.tape.symm, b2.output.trans b1.output.symm, hs, fun k hk => (b2.block k hk).trans (b1.block k hk).symm⟩
theorem keeps_typed {B : Nat} {W W1 : World} {row : Option Nat} (hg : W.grownBy W1 row) (t : TypeId) (hrow : ∀ k, row = some k → ∃ cells, W.heap[k]? = some (.cells cells t (0, 0))) : KeepsFrom B W W1 :=
  ⟨hg.size, fun k o _ hk ho => (hg.block k (Array.getElem?_eq_some_iff.1 hk).1 (fun e => by
    obtain ⟨cells, hc⟩ := hrow k e.symm
    rw [hc] at hk
    cases hk
    cases ho)).trans hk⟩
theorem keeps_below {B : Nat} {W W1 : World} (b : Below W.heap.size W W1) : KeepsFrom B W W1 := keeps_typed (grown_below b none) 0 (fun k e => by cases e)
set_option maxRecDepth 100000 in
set_option maxHeartbeats 4000000 in
theorem fill_calls (g : Nat) (A : Option Addr) (c : Nat) (l : List ByteArray) (D : Option Addr) (d : Nat) (h : List Bool) (w : World) (hI : IsTab w g) (hC : Kd.C Kd.string w A l.length l) (hc : l.length ≤ c) (hz : ∀ s ∈ l, s.size ≤ 140737488355328) (hD : Kd.C Kd.bool w D h.length h) (hd : h.length ≤ d) :
    Calls Tryz.prog 55 #[.pointer (some ⟨g, 0, none⟩), .slice A l.length c, .slice D h.length d] w (Told w.heap.size (fillR l h) w) := by
  refine (callsIn_wide (n := 5)).1 ?_
  have HI := Aside0.mk hI
  have HC := Aside0.mk hC
  have HZ := Aside0.mk hz
  have HDD := Aside0.mk hD
  have HL := Lib.hid hc
  have HDL := Lib.hid hd
  have hmx : l.length ≤ 9223372036854775807 := Kd.C_max hC
  have hmd : h.length ≤ 9223372036854775807 := Kd.C_max hD
  clear hI hC hz hc hD hd
  refine callsIn_of_wp_marks Tryz.func55 rfl trivial ?_ rfl
  simp only [Tryz.ntmps55, List.size_toArray, List.length_cons, List.length_nil, Nat.reduceAdd, Nat.reduceSub, Array.replicate_succ, Array.replicate_zero, List.push_toArray, List.append_toArray, List.nil_append, List.cons_append]
  have hF : Fence.wide.fn 74 := trivial
  by_cases h9 : l.length = 9
  · have h9n : ((l.length : Int) != 9) = false := by rw [h9]; rfl
    by_cases hh9 : h.length = 9
    · have hh9n : ((h.length : Int) != 9) = false := by rw [hh9]; rfl
      have H9 := Lib.hid h9
      have HH9 := Lib.hid hh9
      clear h9 hh9
      gi_wp2_with (first | (gi_at_call 74; refine (there_calls _ _ _ _ _).mono ?_; rintro e w' ⟨rfl, rfl⟩))
      have G := Fi.start (g := g) (S := .slice A l.length c) (w := w) (x := .slice D h.length d)
      have bH := Boxed.new ((((w.alloc (.cells #[.pointer (some ⟨g, 0, none⟩)] 55)).alloc (.cells #[.slice A l.length c] 27)).alloc (.cells #[.slice none 0 0] 27)).alloc (.cells #[.slice none 0 0] 122)) 65 (.slice D h.length d)
      simp only [World.size_alloc] at bH
      generalize ((((w.alloc (.cells #[.pointer (some ⟨g, 0, none⟩)] 55)).alloc (.cells #[.slice A l.length c] 27)).alloc (.cells #[.slice none 0 0] 27)).alloc (.cells #[.slice none 0 0] 122)).alloc (.cells #[.slice D h.length d] 65) = W0 at G bH ⊢
      have hn0 : w.heap.size ≤ W0.heap.size := G.bw.size
      generalize w.heap.size + 1 + 1 + 1 + 1 = BH at bH ⊢
      generalize w.heap.size + 1 + 1 + 1 = BR at G ⊢
      generalize w.heap.size + 1 + 1 = BL at G ⊢
      generalize w.heap.size + 1 = Bs at G ⊢
      refine wpIn_range_told rfl (by decide) (gf := 94) (lb := #[.pointer (some ⟨BH, 0, none⟩)]) rfl trivial (enters_of Tryz.func94 (by kernel_rfl) rfl) (encs := fun x : Nat => #[.int .i64 ((x : Nat) : Int)]) (fun x _ => x < h.length) (fun ys => ys = idx h) h.length w.heap.size hn0 (fun _ => rfl) ?seq (fun pre W => ∃ vL vR P, Fi g w.heap.size Bs BL BR (.slice A l.length c) w vL vR vL vR (pre.map (strAt l)) pre P W) ?own ⟨_, _, _, G⟩ (fun pre x a' W => x < h.length ∧ pre.length < h.length ∧ a' = { tmps := #[.pointer (some ⟨g, 0, none⟩), .slice A l.length c, .slice D h.length d, .pointer (some ⟨w.heap.size, 0, none⟩), .pointer (some ⟨Bs, 0, none⟩), undef, .slice none 0 0, .int .i64 0, .pointer (some ⟨BL, 0, none⟩), .pointer (some ⟨BR, 0, none⟩), .int .i64 ((x : Nat) : Int), undef, undef, undef, .pointer (some ⟨g, 0, none⟩), .bool false, .bool false, .slice A l.length c, .int .i64 l.length, .bool false, .bool false, .bool false, .slice D h.length d, .int .i64 h.length, .bool false, .bool false, .slice D h.length d, .func (.func 94) #[] #[.pointer (some ⟨BH, 0, none⟩)], .int .i64 ((x : Nat) : Int), undef, undef, undef, undef, undef, undef, undef, undef, undef, undef, undef, undef, undef, undef, undef, undef, undef, undef, undef, undef, undef, undef, undef, undef, undef, undef, undef, undef, undef, undef, undef, undef, undef, undef, undef, undef, undef, undef, undef, undef, undef, undef, undef, undef, undef, undef], defers := [] } ∧ ∃ vL vR P, Fi g w.heap.size Bs BL BR (.slice A l.length c) w vL vR vL vR (pre.map (strAt l)) pre P W) ?ax ?assign ?body ?done
      case seq =>
        intro lq J W hW hJ hY h0
        exact there_in _ (by decide) lq BH D d h w HDD.out HDL.out J (fun pre x W1 h1 h2 h3 => hY pre x W1 h1 h2 h3) W (below2 G.bw hn0 hW) ((hW.cell (p := ⟨BH, 0, none⟩) bH.lt).trans bH.cell) h0
      case own =>
        rintro pre X Y row ⟨vL, vR, P, hs⟩ hg hr
        exact ⟨vL, vR, P, hs.calm hg (fun r e => ⟨Nat.le_trans hn0 (hr r e).1, (hr r e).2⟩)⟩
      case ax =>
        rintro pre x a' _ X Y row ⟨h1, h2, h3, vL, vR, P, hs⟩ hg hr
        exact ⟨h1, h2, h3, vL, vR, P, hs.calm hg (fun r e => ⟨Nat.le_trans hn0 (hr r e).1, (hr r e).2⟩)⟩
      case assign =>
        rintro lq pre x W K ⟨vL, vR, P, hs⟩ hv hN hK
        gi_wp2
        exact hK _ _ ⟨Nat.le_refl _, fun _ _ _ hk _ => hk⟩ (Below.refl _ _) ⟨hv, hN, rfl, vL, vR, P, hs⟩
      case body =>
        rintro lq pre i a' W ⟨hi, hpl, rfl, vL, vR, P, HG⟩
        have hi9 : i < l.length := by have := H9.out; have := HH9.out; omega
        have hi8 : i ≤ 8 := by have := HH9.out; omega
        have hpl9 : pre.length < 9 := by have := HH9.out; omega
        obtain ⟨ad, hA, _⟩ := strs_at HC.out i hi9
        subst hA
        obtain ⟨s, hs⟩ : ∃ s, i < l.length ∧ strAt l i = s := ⟨_, hi9, rfl⟩
        have hs := Lib.hid hs
        have HG0 := HG.below (Below.drew (Below.refl _ _))
        have hii : (i : Int) < (l.length : Int) := by omega
        gi_wp2
        refine startIn_ (m := 15) (by kernel_rfl) (by rintro ⟨_, _, h1, _⟩; cases h1) (S := fun w' => w'.cell? ⟨BL, 0, none⟩ = some vL ∧ w'.cell? ⟨Bs, 0, none⟩ = some (.slice (some ad) l.length c) ∧ w'.cell? (ad.add i) = some (.string s) ∧ w'.cell? ⟨BR, 0, none⟩ = some vR ∧ w'.cell? ⟨w.heap.size, 0, none⟩ = some (.pointer (some ⟨g, 0, none⟩))) (ds := [13, 14]) #[false, false, false, false, false, false, false, false, false, false, false, false, false, false, false] (by kernel_rfl) rfl rfl ⟨HG0.bl.cell, HG0.bs.cell, (str_now HC.out HG0.bw hs.out), HG0.br.cell, HG0.bt.cell⟩ (fun hHeld => ?_)
        refine pure_ (i := 2) (N := some 31) (v := ?_) (a' := ?_) #[false, false, true, false, false, false, false, false, false, false, false, false, false, false, false] rfl rfl (by kernel_rfl) (fun _ _ _ h => h) (Or.inl ⟨by rfl, ?_⟩) ?_ ?_
        rotate_left
        · intro w'
          go_simp
          with_reducible rfl
        rotate_left
        · simp only [Act.put, List.setIfInBounds_toArray, List.set_cons_zero, List.set_cons_succ]
          rfl
        refine pure_ (i := 9) (N := some 38) (v := ?_) (a' := ?_) #[false, false, true, false, false, false, false, false, false, true, false, false, false, false, false] rfl rfl (by kernel_rfl) (fun _ _ _ h => h) (Or.inl ⟨by rfl, ?_⟩) ?_ ?_
        rotate_left
        · intro w'
          go_simp
          with_reducible rfl
        rotate_left
        · simp only [Act.put, List.setIfInBounds_toArray, List.set_cons_zero, List.set_cons_succ]
          rfl
        refine take_ (i := 0) (N := some 29) (v := ?_) (a' := ?_) #[true, false, true, false, false, false, false, false, false, true, false, false, false, false, false] rfl rfl (by kernel_rfl) (fun _ _ _ h => h) (Or.inl ⟨by rfl, ?_⟩) hHeld ?_ ?_
        rotate_left
        · rintro w' ⟨s0, s1, s2, s3, s4⟩
          go_simp
          with_reducible rfl
        rotate_left
        · simp only [Act.put, List.setIfInBounds_toArray, List.set_cons_zero, List.set_cons_succ]
          rfl
        refine take_ (i := 1) (N := some 30) (v := ?_) (a' := ?_) #[true, true, true, false, false, false, false, false, false, true, false, false, false, false, false] rfl rfl (by kernel_rfl) (fun _ _ _ h => h) (Or.inl ⟨by rfl, ?_⟩) hHeld ?_ ?_
        rotate_left
        · rintro w' ⟨s0, s1, s2, s3, s4⟩
          go_simp
          with_reducible rfl
        rotate_left
        · simp only [Act.put, List.setIfInBounds_toArray, List.set_cons_zero, List.set_cons_succ]
          rfl
        refine pure_ (i := 3) (N := some 32) (v := ?_) (a' := ?_) #[true, true, true, true, false, false, false, false, false, true, false, false, false, false, false] rfl rfl (by kernel_rfl) (fun _ _ _ h => h) (Or.inl ⟨by rfl, ?_⟩) ?_ ?_
        rotate_left
        · intro w'
          go_simp
          with_reducible rfl
        rotate_left
        · simp only [Act.put, List.setIfInBounds_toArray, List.set_cons_zero, List.set_cons_succ]
          rfl
        refine take_ (i := 4) (N := some 33) (v := ?_) (a' := ?_) #[true, true, true, true, true, false, false, false, false, true, false, false, false, false, false] rfl rfl (by kernel_rfl) (fun _ _ _ h => h) (Or.inl ⟨by rfl, ?_⟩) hHeld ?_ ?_
        rotate_left
        · rintro w' ⟨s0, s1, s2, s3, s4⟩
          go_simp
          with_reducible rfl
        rotate_left
        · simp only [Act.put, List.setIfInBounds_toArray, List.set_cons_zero, List.set_cons_succ]
          rfl
        refine take_ (i := 7) (N := some 36) (v := ?_) (a' := ?_) #[true, true, true, true, true, false, false, true, false, true, false, false, false, false, false] rfl rfl (by kernel_rfl) (fun _ _ _ h => h) (Or.inl ⟨by rfl, ?_⟩) hHeld ?_ ?_
        rotate_left
        · rintro w' ⟨s0, s1, s2, s3, s4⟩
          go_simp
          with_reducible rfl
        rotate_left
        · simp only [Act.put, List.setIfInBounds_toArray, List.set_cons_zero, List.set_cons_succ]
          rfl
        refine take_ (i := 8) (N := some 37) (v := ?_) (a' := ?_) #[true, true, true, true, true, false, false, true, true, true, false, false, false, false, false] rfl rfl (by kernel_rfl) (fun _ _ _ h => h) (Or.inl ⟨by rfl, ?_⟩) hHeld ?_ ?_
        rotate_left
        · rintro w' ⟨s0, s1, s2, s3, s4⟩
          go_simp
          with_reducible rfl
        rotate_left
        · simp only [Act.put, List.setIfInBounds_toArray, List.set_cons_zero, List.set_cons_succ]
          rfl
        refine one_ (i := 5) (N := some 34) #[true, true, true, true, true, true, false, true, true, true, false, false, false, false, false] rfl rfl (by kernel_rfl) (by decide) (fun K hK => ?_)
        refine value_ (w1 := ?_) (v := ?_) (by rfl) rfl ?_ ?_
        rotate_left 2
        · go_simp
          constructor
          · rfl
          · rfl
        have HG1 := HG0.below (below_alloc (Below.refl _ _) (.cells #[.string s] 9))
        refine hK.out _ _ ⟨HG1.bl.cell, HG1.bs.cell, (str_now HC.out HG1.bw hs.out), HG1.br.cell, HG1.bt.cell⟩ (fun hHeld => ?_)
        clear hK K
        refine norm_ (a' := ?_) ?_ ?_
        rotate_left
        · show Act.put _ (some 34) _ = _
          simp only [Act.put, List.setIfInBounds_toArray, List.set_cons_zero, List.set_cons_succ]
          rfl
        refine one_ (i := 6) (N := some 35) #[true, true, true, true, true, true, true, true, true, true, false, false, false, false, false] rfl rfl (by kernel_rfl) (by decide) (fun K hK => ?_)
        refine Kd.R_append_step Kd.string (w0 := w) w.heap.size (by rfl) (.tmp 29) (.tmp 34) 27 9 (.string ⟨#[]⟩) 16 rfl Tryz.underlying27 infoStr rfl (by decide) (by decide) vL (pre.map (strAt l)) s [.string s] (fun j => w.heap.size ≤ j) (fun _ => False) rfl rfl rfl (fun _ hk => hk.elim) (fun j hj => Nat.le_trans HG0.bw.size hj) HG0.oL HG0.bw HG0.bw.size (by rw [List.length_map]; omega) ?_
        intro v1 w3 hR hB hg _
        obtain ⟨A1, n1, c1, rfl⟩ : ∃ A1 n1 c1, v1 = .slice A1 n1 c1 := by obtain ⟨A1, c1, e⟩ := Kd.R_slice hR; exact ⟨A1, _, c1, e⟩
        have HG2 := HG0.left hR hg
        refine hK.out _ _ ⟨HG2.bl.cell, HG2.bs.cell, (str_now HC.out HG2.bw hs.out), HG2.br.cell, HG2.bt.cell⟩ (fun hHeld => ?_)
        clear hK K
        refine norm_ (a' := ?_) ?_ ?_
        rotate_left
        · show Act.put _ (some 35) _ = _
          simp only [Act.put, List.setIfInBounds_toArray, List.set_cons_zero, List.set_cons_succ]
          rfl
        refine one_ (i := 10) (N := some 39) #[true, true, true, true, true, true, true, true, true, true, true, false, false, false, false] rfl rfl (by kernel_rfl) (by decide) (fun K hK => ?_)
        refine goes_ Tryz.func43 (by kernel_rfl) rfl #[.pointer (some ⟨g, 0, none⟩), .int .i64 (i : Int)] (by rfl) rfl rfl (by simp only [List.map_toArray, List.map_cons, List.map_nil]; rfl) ?_
        with_reducible refine (row_told g i hi8 _ (HI.out.below HG2.bw)).mono ?_
        rintro e w4 ⟨b, rfl, hF, hbg, hb⟩
        refine ⟨_, rfl, ?_⟩
        have HG4 := HG2.below hb
        refine hK.out _ _ ⟨HG4.bl.cell, HG4.bs.cell, (str_now HC.out HG4.bw hs.out), HG4.br.cell, HG4.bt.cell⟩ (fun hHeld => ?_)
        clear hK K
        refine norm_ (a' := ?_) ?_ ?_
        rotate_left
        · show Act.put _ (some 39) _ = _
          simp only [Act.put, List.setIfInBounds_toArray, List.set_cons_zero, List.set_cons_succ]
          rfl
        refine one_ (i := 11) (N := some 40) #[true, true, true, true, true, true, true, true, true, true, true, true, false, false, false] rfl rfl (by kernel_rfl) (by decide) (fun K hK => ?_)
        refine value_ (w1 := ?_) (v := ?_) (by rfl) rfl ?_ ?_
        rotate_left 2
        · go_simp
          constructor
          · rfl
          · rfl
        have HG5 := HG4.below (below_alloc (Below.refl _ _) (.cells #[.slice (some ⟨b, 0, none⟩) 6 6] 80))
        refine hK.out _ _ ⟨HG5.bl.cell, HG5.bs.cell, (str_now HC.out HG5.bw hs.out), HG5.br.cell, HG5.bt.cell⟩ (fun hHeld => ?_)
        clear hK K
        refine norm_ (a' := ?_) ?_ ?_
        rotate_left
        · show Act.put _ (some 40) _ = _
          simp only [Act.put, List.setIfInBounds_toArray, List.set_cons_zero, List.set_cons_succ]
          rfl
        refine one_ (i := 12) (N := some 41) #[true, true, true, true, true, true, true, true, true, true, true, true, true, false, false] rfl rfl (by kernel_rfl) (by decide) (fun K hK => ?_)
        refine Kd.R_append_step kPtr (w0 := w) w.heap.size (by rfl) (.tmp 36) (.tmp 40) 122 80 (.slice none 0 0) 24 rfl Tryz.underlying122 infoPtr rfl (by decide) (by decide) vR P b [.slice (some ⟨b, 0, none⟩) 6 6] (fun j => w.heap.size ≤ j) (fun _ => False) rfl rfl rfl (fun _ hk => hk.elim) (fun j hj => Nat.le_trans HG4.bw.size hj) HG4.oR HG4.bw HG4.bw.size (by rw [HG0.lP]; omega) ?_
        intro v2 w5 hR2 hB2 hg2 _
        obtain ⟨A2, n2, c2, rfl⟩ : ∃ A2 n2 c2, v2 = .slice A2 n2 c2 := by obtain ⟨A2, c2, e⟩ := Kd.R_slice hR2; exact ⟨A2, _, c2, e⟩
        have HG6 := HG4.row hR2 hg2 hF (fun x hx => Nat.lt_of_lt_of_le (HG2.sP x hx).2 hbg) (Nat.le_trans HG2.bw.size hbg)
        have c13 := HG6.bl.cell
        have f13 := HG6.bl.frozen
        have c14 := (HG6.br1 (.slice A1 n1 c1)).cell
        have f14 := (HG6.br1 (.slice A1 n1 c1)).frozen
        refine hK.out _ _ ⟨HG6.bl.cell, HG6.bs.cell, (str_now HC.out HG6.bw hs.out), HG6.br.cell, HG6.bt.cell⟩ (fun hHeld => ?_)
        clear hK K
        refine norm_ (a' := ?_) ?_ ?_
        rotate_left
        · show Act.put _ (some 41) _ = _
          simp only [Act.put, List.setIfInBounds_toArray, List.set_cons_zero, List.set_cons_succ]
          rfl
        refine last_ (i := 13) (N := none) #[true, true, true, true, true, true, true, true, true, true, true, true, true, true, false] rfl rfl (by kernel_rfl) (by decide) (fun K hK => ?_)
        refine skip_ (w1 := ?_) (by rfl) rfl ?_ ?_
        rotate_left
        · go_simp
          rfl
        refine hK.out _ _ ?_
        clear hK K
        refine last_ (i := 14) (N := none) #[true, true, true, true, true, true, true, true, true, true, true, true, true, true, true] rfl rfl (by kernel_rfl) (by decide) (fun K hK => ?_)
        refine skip_ (w1 := ?_) (by rfl) rfl ?_ ?_
        rotate_left
        · go_simp
          rfl
        refine hK.out _ _ ?_
        clear hK K
        refine done_ (by kernel_rfl) ?_
        have hL2 := fun k e => Kd.R_typed HG0.oL k e
        have hR3 := fun k e => Kd.R_typed HG4.oR k e
        have hfin := HG6.put (.slice A1 n1 c1) (.slice A2 n2 c2)
        have b1 : KeepsFrom W0.heap.size W W.drew := keeps_below (Below.drew (Below.refl _ _))
        have b2 : KeepsFrom W0.heap.size W.drew w3 := keeps_typed hg _ hL2
        have b3 : KeepsFrom W0.heap.size w3 w4 := keeps_below hb
        have b4 : KeepsFrom W0.heap.size w4 w5 := keeps_typed hg2 _ hR3
        have b5 := (KeepsOthers.setCell w5 ⟨BL, 0, none⟩ (.slice A1 n1 c1)).from W0.heap.size
        have b6 := (KeepsOthers.setCell (w5.setCell ⟨BL, 0, none⟩ (.slice A1 n1 c1)) ⟨BR, 0, none⟩ (.slice A2 n2 c2)).from W0.heap.size
        have bk := ((((b1.trans b2).trans b3).trans b4).trans b5).trans b6
        refine ⟨rfl, bk, below_between HG.bw hfin.bw bk.size, .slice A1 n1 c1, .slice A2 n2 c2, P ++ [b], ?_⟩
        rw [List.map_append, List.map_singleton, hs.out.2]
        exact hfin
      case done =>
        rintro D0 ys W hDD hS ⟨vL, vR, P, HG⟩ hK
        subst hS
        obtain ⟨A1, c1, rfl⟩ := Kd.R_slice HG.oL
        have hlen : (List.map (strAt l) (idx h)).length = (idx h).length := List.length_map _
        have hRL := Kd.R_reads' HG.oL
        have HLC : Aside0 (Kd.C Kd.string W A1 (leftL l h).length (leftL l h)) := ⟨hRL.2.2⟩
        have HLL : Hid ((leftL l h).length ≤ c1) := Lib.hid hRL.2.1
        have HE := Aside0.mk (even_calls A1 c1 (leftL l h) W HLC.out HLL.out)
        have hbl : W.cell? ⟨BL, 0, none⟩ = some (.slice A1 (leftL l h).length c1) := HG.bl.cell
        have HG := Aside0.mk HG
        have HKD := Lib.hid hK
        clear hRL hK hlen
        cases he : evenB (leftL l h) with
        | false =>
          rw [he] at HE
          have HR := Lib.hid (show fillR l h = ([], 1) by unfold fillR; rw [if_pos ⟨H9.out, HH9.out⟩, if_neg (by rw [he]; simp)])
          have hF2 : Fence.wide.fn 41 := trivial
          gi_wp2_with (gi_at_call 41; refine (callsIn_wide.2 HE.out).mono ?_; rintro e W2 ⟨rfl, hb⟩)
          refine ⟨by simp, .inl ⟨_, _, rfl, run_takeDeferred ((hb.block _ (Array.getElem?_eq_some_iff.1 HKD.out).1).trans HKD.out), ?_⟩⟩
          refine ⟨_, results_tmp2 rfl _ _ _, none, 0, by rw [HR.out]; rfl, by rw [HR.out]; exact Kd.R_nil _ _ _ _ _, ?_⟩
          exact (below2 HG.out.bw HG.out.bw.size hb).trans (belowK_b (w := w) (Nat.le_refl _) W2 D0 _ _ (Nat.le_trans hn0 hDD) ((hb.block _ (Array.getElem?_eq_some_iff.1 HKD.out).1).trans HKD.out) rfl rfl)
        | true =>
          rw [he] at HE
          have hF2 : Fence.wide.fn 41 := trivial
          have hlen : (leftL l h).length = (idx h).length := List.length_map _
          by_cases h6 : (idx h).length < 6
          · have HR := Lib.hid (show fillR l h = ([], 2) by unfold fillR; rw [if_pos ⟨H9.out, HH9.out⟩, if_pos he, if_pos h6])
            have h6i : ((leftL l h).length : Int) < 6 := by omega
            replace h6 := Lib.hid h6
            replace hlen := Lib.hid hlen
            replace he := Lib.hid he
            gi_wp2_with (gi_at_call 41; refine (callsIn_wide.2 HE.out).mono ?_; rintro e W2 ⟨rfl, hb⟩; have hbl2 : W2.cell? ⟨BL, 0, none⟩ = some (.slice A1 (leftL l h).length c1) := (hb.cell (p := ⟨BL, 0, none⟩) HG.out.bl.lt).trans hbl)
            refine ⟨by simp, .inl ⟨_, _, rfl, run_takeDeferred ((hb.block _ (Array.getElem?_eq_some_iff.1 HKD.out).1).trans HKD.out), ?_⟩⟩
            refine ⟨_, results_tmp2 rfl _ _ _, none, 0, by rw [HR.out]; rfl, by rw [HR.out]; exact Kd.R_nil _ _ _ _ _, ?_⟩
            exact (below2 HG.out.bw HG.out.bw.size hb).trans (belowK_b (w := w) (Nat.le_refl _) W2 D0 _ _ (Nat.le_trans hn0 hDD) ((hb.block _ (Array.getElem?_eq_some_iff.1 HKD.out).1).trans HKD.out) rfl rfl)
          · have HR := Lib.hid (show fillR l h = encR (dataL l h) by unfold fillR; rw [if_pos ⟨H9.out, HH9.out⟩, if_pos he, if_neg h6])
            have h6i : (6 : Int) ≤ ((leftL l h).length : Int) := by omega
            have hn6 : 6 ≤ (leftL l h).length := by omega
            have hcut : decide (((leftL l h).length : Int) < 6) = false := by simp; omega
            have hc16 : 6 ≤ c1 := Nat.le_trans hn6 HLL.out
            obtain ⟨A2, c2, hv2⟩ := Kd.R_slice HG.out.oR
            subst hv2
            have hP6 : 6 ≤ P.length := by rw [HG.out.lP]; omega
            have hc26 : 6 ≤ c2 := Nat.le_trans hP6 (Kd.R_reads' HG.out.oR).2.1
            have hbr : W.cell? ⟨BR, 0, none⟩ = some (.slice A2 P.length c2) := HG.out.br.cell
            replace h6 := Lib.hid h6
            replace hlen := Lib.hid hlen
            replace he := Lib.hid he
            gi_wp2_with (gi_at_call 41; refine (callsIn_wide.2 HE.out).mono ?_; rintro e W2 ⟨rfl, hb⟩; have HG2 := Aside0.mk (HG.out.below hb); have hbl2 : W2.cell? ⟨BL, 0, none⟩ = some (.slice A1 (leftL l h).length c1) := HG2.out.bl.cell; have hbr2 : W2.cell? ⟨BR, 0, none⟩ = some (.slice A2 P.length c2) := HG2.out.br.cell; have HKD2 := Lib.hid ((hb.block _ (Array.getElem?_eq_some_iff.1 HKD.out).1).trans HKD.out); clear hbl hbr hb)
            refine wpIn_mono (Q := fun e a' w' => e = .normal ∧ a' = { tmps := #[.pointer (some ⟨g, 0, none⟩), .slice A l.length c, .slice D h.length d, .pointer (some ⟨w.heap.size, 0, none⟩), .pointer (some ⟨Bs, 0, none⟩), undef, .slice none 0 0, .int .i64 0, .pointer (some ⟨BL, 0, none⟩), .pointer (some ⟨BR, 0, none⟩), undef, undef, undef, undef, .pointer (some ⟨g, 0, none⟩), .bool false, .bool false, .slice A l.length c, .int .i64 l.length, .bool false, .bool false, .bool false, .slice D h.length d, .int .i64 h.length, .bool false, .bool false, .slice D h.length d, .func (.func 94) #[] #[.pointer (some ⟨BH, 0, none⟩)], undef, undef, undef, undef, undef, undef, undef, undef, undef, undef, undef, undef, undef, undef, .bool false, .slice A1 (leftL l h).length c1, .bool true, .bool false, .bool false, .slice A1 (leftL l h).length c1, .int .i64 ((leftL l h).length : Nat), .bool false, .slice A1 (leftL l h).length c1, .slice A1 6 c1, .slice A2 P.length c2, .slice A2 6 c2, undef, undef, undef, undef, undef, undef, undef, undef, undef, undef, undef, undef, undef, undef, undef, undef, undef, undef, undef, undef, undef], defers := [{ target := .collected D0, args := #[] }] } ∧ Fi g w.heap.size Bs BL BR (.slice A l.length c) w (.slice A1 6 c1) (.slice A2 6 c2) (.slice A1 (leftL l h).length c1) (.slice A2 P.length c2) (leftL l h) (idx h) P w' ∧ W2.heap.size ≤ w'.heap.size ∧ (∀ (D : Nat) (o : Obj), W2.heap[D]? = some o → o.isCells = false → w'.heap[D]? = some o)) ?reg ?cont
            case reg =>
              refine wpIn_wide.2 ?_
              have f1 := HG2.out.bl.frozen
              have f2 := HG2.out.br.frozen
              have hnel := HG2.out.bl
              have hne : BL ≠ BR := by
                intro e
                have e2 := HG2.out.br
                rw [← e] at e2
                have e3 : W2.heap[BL]? = _ := HG2.out.bl
                rw [show W2.heap[BL]? = _ from e2] at e3
                injection e3 with e3
                injection e3 with _ e3
                exact absurd e3 (by decide)
              have hne2 := Ne.symm hne
              go_region
              all_goals
                refine ⟨rfl, rfl, (HG2.out.put (.slice A1 6 c1) (.slice A2 6 c2)).below (Below.drew (Below.refl _ _)), by simp, fun D o ho hn => ?_⟩
                exact (((KeepsOthers.setCell W2 ⟨BL, 0, none⟩ (.slice A1 6 c1)).from 0).trans ((KeepsOthers.setCell (W2.setCell ⟨BL, 0, none⟩ (.slice A1 6 c1)) ⟨BR, 0, none⟩ (.slice A2 6 c2)).from 0)).same D o (Nat.zero_le _) ho hn
            case cont =>
              rintro e a' W3 ⟨rfl, rfl, HG3, hs3, hd3⟩
              obtain ⟨gR, cR, hvR, hgR, hPt, hPc⟩ := HG3.ptr (by omega)
              injection hvR with e1 e2 e3
              subst e1 e3
              have hP6l : (P.take 6).length = 6 := by rw [List.length_take]; omega
              have hil : ((idx h).take 6).length = 6 := by rw [List.length_take]; have := HG3.lP; omega
              have HSV := solve_calls g gR c2 (P.take 6) (((idx h).take 6).map frow) W3 (HI.out.below HG3.bw) (hPt.take 6) hP6l (HG3.nd.sublist (List.take_sublist 6 P)) (Wf.frows _ hil) (fun i hi => by
                rw [rowAt_map _ _ (by rw [hil]; exact hi), getD_take _ _ _ hi, getD_take _ _ _ hi]
                exact HG3.rw i (by omega)) ⟨by have := HI.out.2.2; omega, fun hm => by have := (HG3.sP g (List.mem_of_mem_take hm)).1; have := HI.out.2.2; omega⟩ hc26
              have HSV := Aside0.mk HSV
              have HKD3 := hd3 D0 _ HKD2.out rfl
              have ct3 := HG3.bt.cell
              have cr3 := HG3.br.cell
              have HSD := Aside0.mk (fun W4 (hF : Fr gR (P.take 6) W3 W4) => HG3.solved hPt hF hgR)
              have hs3' := Lib.hid hs3
              have HKD3 := Lib.hid HKD3
              have HG3 := Aside0.mk HG3
              clear hPt hd3 hs3 hP6l hil HG2 hbl2 hbr2 HKD2
              refine ‹∀ (a : Act) (w : World), Code.wpIn Fence.wide 5 Tryz.prog _ _ a w → _› _ _ (wpIn_wide.2 ?_)
              go_wp2_with (go_at_call 75; refine HSV.out.mono ?_; rintro e W4 ⟨gK, Q, rfl, hQp, hQ6, hQr, hWf, hgK, hI4, hFr⟩)
              obtain ⟨hbt4, hbl4, hoL4, hbw4, hdf4⟩ := HSD.out W4 hFr
              have HT4 := Aside0.mk hbt4
              have HB4 := Aside0.mk hbl4
              have HL4 := Aside0.mk (Kd.R_reads' hoL4).2.2
              have HW4 := Aside0.mk hbw4
              have HK4 := Lib.hid (hdf4 D0 _ HKD3.out rfl)
              have HQp := Aside0.mk hQp
              have HQ6 := Lib.hid hQ6
              have HQr := Aside0.mk hQr
              have HWf := Aside0.mk hWf
              have HI4 := Aside0.mk hI4
              have he6 : Hid (evenB ((leftL l h).take 6) = true) := Lib.hid (evenB_take he.out 6 (by omega))
              have hl6 : Hid (((leftL l h).take 6).length = 6) := Lib.hid (by rw [List.length_take]; omega)
              have hw6 : Hid (wid ((leftL l h).take 6) ≤ 140737488355328) := Lib.hid (by
                rw [take_wid _ _ (by omega)]
                unfold wid leftL
                rw [strAt_map _ _ _ (by have := hlen.out; omega)]
                have hm : (idx h).getD 0 0 < l.length := by
                  have h1 : (idx h).getD 0 0 ∈ idx h := mem_get (by have := hlen.out; omega)
                  have h2 := (List.mem_filter.1 h1).1
                  rw [List.mem_range] at h2
                  have := H9.out
                  have := HH9.out
                  omega
                rw [strAt_eq hm]
                exact HZ.out _ (List.getElem_mem hm))
              have HL6 := Aside0.mk (strs_take HL4.out 6 hn6)
              clear hFr hbt4 hbl4 hoL4 hbw4 hdf4 hQp hQ6 hQr hWf hI4 hgK HL4 HSD ct3 cr3 HKD3
              obtain ⟨R6, hR6⟩ : ∃ R, solveN (((idx h).take 6).map frow) = R := ⟨_, rfl⟩
              obtain ⟨l6, hl6e⟩ : ∃ x, (leftL l h).take 6 = x := ⟨_, rfl⟩
              rw [hR6] at HQr HWf
              rw [hl6e] at he6 hl6 hw6 HL6
              have hDL : Hid (dataL l h = dataK R6 l6 6) := Lib.hid (by unfold dataL; rw [hR6, hl6e])
              clear hR6 hl6e
              have G1 : Aside0 (RS W4.heap.size (.slice none 0 0) (dataK R6 l6 0) W4) := ⟨Kd.R_nil _ _ _ _ _⟩
              have G2 : Aside0 (Below W4.heap.size W4 W4) := ⟨Below.refl _ _⟩
              go_loopw [11, 58] (fun v i wr => ∃ k : Nat, k ≤ 6 ∧ i = .int .i64 k ∧ Aside0 (RS W4.heap.size v (dataK R6 l6 k) wr) ∧ Aside0 (Below W4.heap.size W4 wr)) (fun _ i _ => 6 - (intOf i).toNat)
              case atStart => exact ⟨0, by omega, rfl, G1, G2⟩
              case round =>
                clear G1 G2
                obtain ⟨k, hk, rfl, G1, G2⟩ := hrel
                by_cases hlt : k < 6
                · have HK := Lib.hid hlt
                  obtain ⟨qk, hqk⟩ : ∃ q, Q.getD k 0 = q := ⟨_, rfl⟩
                  have cq := (HQp.out.at' (G2.out.block _ HQp.out.lt)).cell k (by rw [HQ6.out]; exact hlt)
                  rw [hqk] at cq
                  have cq : wr.cell? ⟨gK, k, none⟩ = some (.slice (some ⟨qk, 0, none⟩) 6 6) := cq
                  have ct := (HT4.out.kept (grown_below G2.out none) (by simp)).cell
                  have cl := (HB4.out.kept (grown_below G2.out none) (by simp)).cell
                  have hrow := HQr.out k hlt
                  rw [hqk] at hrow
                  have MX := mix_calls g qk 6 (rowAt R6 k) A1 c1 l6 (wid l6) wr (HI4.out.below G2.out) (hrow.keep G2.out) (HWf.out.row hlt).2 (by rw [hl6.out, (HWf.out.row hlt).1]; exact Nat.le_refl _) (by rw [(HWf.out.row hlt).1]; exact Nat.le_refl _) (Kd.C_below HL6.out G2.out) (by rw [hl6.out]; exact hc16) (by rw [hl6.out]; decide) (fun s hs => evenB_size he6.out hs) hw6.out
                  rw [(HWf.out.row hlt).1, hl6.out] at MX
                  have MX := Aside0.mk (show Calls Tryz.prog 42 #[.pointer (some ⟨g, 0, none⟩), .slice (some ⟨qk, 0, none⟩) 6 6, .slice A1 6 c1] wr fun e w' => e = .returned (.string (mixS (rowAt R6 k) l6)) ∧ Below wr.heap.size wr w' from MX)
                  clear hqk hrow
                  go_wp2_with (first | (go_at_call 42; refine MX.out.mono ?_; rintro e w2 ⟨rfl, hb⟩; have G1 := Aside0.mk (G1.out.keep hb); have G2 := Aside0.mk (below2 G2.out G2.out.size hb); clear hb cq ct cl) | (at_builtin; refine Kd.R_append Kd.string (w0 := W4) W4.heap.size rfl (.tmp 62) (.tmp 67) 27 9 (.string ⟨#[]⟩) 16 rfl Tryz.underlying27 infoStr rfl (by decide) (by decide) u11 (dataK R6 l6 k) (mixS (rowAt R6 k) l6) [.string (mixS (rowAt R6 k) l6)] (fun j => W4.heap.size ≤ j) (fun _ => False) rfl rfl rfl (fun _ hk => hk.elim) (fun j hj => Nat.le_trans G2.out.size hj) G1.out G2.out G2.out.size (by rw [dataK_len]; have := HK.out; omega) ?_; intro v1 w3 hR hB hg _; rw [dataK_succ] at hR; have G1 := Aside0.mk hR; have G2 := Aside0.mk hB; clear hR hB hg))
                  go_roundw
                  case rel => exact ⟨k + 1, HK.out, by go_num, G1, G2⟩
                  case measure => have := HK.out; simp [intOf]; omega
                · obtain rfl : k = 6 := by omega
                  obtain ⟨A5, c5, hv5⟩ := Kd.R_slice G1.out
                  subst hv5
                  have hr5 := Kd.R_reads' G1.out
                  have EN := encode_calls g A5 c5 (dataK R6 l6 6) wr (HI4.out.below G2.out) hr5.2.2 hr5.2.1 (fun s hs => by
                    obtain ⟨i, hi, rfl⟩ := List.mem_map.1 hs
                    unfold mixS
                    rw [B_size, mixL_len]
                    exact hw6.out)
                  have EN := Aside0.mk EN
                  have ct := (HT4.out.kept (grown_below G2.out none) (by simp)).cell
                  clear hr5
                  go_wp2_with (go_at_call 27; refine EN.out.mono ?_; rintro e W5 ⟨A6, c6, rfl, hO, hB⟩)
                  have hK5 := (hB.block _ (Nat.lt_of_lt_of_le (Array.getElem?_eq_some_iff.1 HK4.out).1 G2.out.size)).trans ((G2.out.block _ (Array.getElem?_eq_some_iff.1 HK4.out).1).trans HK4.out)
                  have hbW := below2 HW4.out HW4.out.size (below2 G2.out G2.out.size hB)
                  refine ⟨by simp, .inl ⟨_, _, rfl, run_takeDeferred hK5, ?_⟩⟩
                  refine ⟨_, results_tmp2 rfl _ _ _, A6, c6, by rw [HR.out, hDL.out]; rfl, ?_, hbW.trans (belowK_b (w := w) (Nat.le_refl _) W5 D0 _ _ (Nat.le_trans hn0 hDD) hK5 rfl rfl)⟩
                  rw [HR.out, hDL.out]
                  refine R_calm2 (Kd.R_mono (Kd.R_lower hO (Nat.le_trans HW4.out.size G2.out.size)) (fun k hk => Nat.le_trans (Nat.le_trans HW4.out.size G2.out.size) hk)) (grownBy_putObj' W5 D0 (.deferred none)) (fun r e' => by cases e'; exact ⟨_, hK5, rfl⟩)
    · have hh9n : ((h.length : Int) != 9) = true := by rw [bne_iff_ne]; omega
      have HR := Lib.hid (show fillR l h = ([], 1) by unfold fillR; rw [if_neg (fun e => hh9 e.2)])
      have hh9 := Lib.hid hh9
      have h9 := Lib.hid h9
      gi_wp2_with fail
      refine ⟨_, results_tmp2 rfl _ _ _, none, 0, by rw [HR.out]; rfl, by rw [HR.out]; exact Kd.R_nil _ _ _ _ _, below_alloc (below_alloc (Below.refl _ w) _) _⟩
  · have h9n : ((l.length : Int) != 9) = true := by rw [bne_iff_ne]; omega
    have HR := Lib.hid (show fillR l h = ([], 1) by unfold fillR; rw [if_neg (fun e => h9 e.1)])
    have h9 := Lib.hid h9
    gi_wp2_with fail
    refine ⟨_, results_tmp2 rfl _ _ _, none, 0, by rw [HR.out]; rfl, by rw [HR.out]; exact Kd.R_nil _ _ _ _ _, below_alloc (below_alloc (Below.refl _ w) _) _⟩
end Go.Proofs.YtdcfonmjbelgbaaGreatDoor
end
section
namespace Go.Proofs.YtdcfonmjbelgbaaGreatDoor
open Go.RowKit Q Go.Proofs.YtdcfonmjbelgbaaGreatDoorW.PrintWords Go.Proofs.YtdcfonmjbelgbaaGreatDoorW.PrintLast Go.Proofs.YtdcfonmjbelgbaaGreatDoorW.PrintMore
theorem str_ext {a b : ByteArray} (hs : a.size = b.size) (h : ∀ p, p < a.size → byt a p = byt b p) : a = b := by
  apply eq_of_data
  apply List.ext_getElem
  · simpa using hs
  · intro i h1 h2
    have h1' : i < a.size := by simpa using h1
    have h3 := h i h1'
    have h2' : i < b.size := by omega
    rw [byt_eq a i h1', byt_eq b i h2'] at h3
    exact UInt8.toNat_inj.1 h3
theorem mixS_size (fs : List Nat) (l : List ByteArray) : (mixS fs l).size = wid l := by unfold mixS; rw [B_size, mixL_len]
theorem byt_mix (fs : List Nat) (l : List ByteArray) (p : Nat) (hp : p < wid l) : byt (mixS fs l) p = accAt fs l l.length p := by
  have h1 := accAt_le fs l l.length p
  unfold byt mixS
  rw [B_data, mixL, List.getD_eq_getElem?_getD, List.getElem?_map, List.getElem?_range hp]
  simp
  omega
theorem tried_all (h : List Bool) (hl : h.length = 9) : tried h = true := by
  match h, hl with
  | [a, b, c, d, e, f, g, i, j], _ => exact all_tried a b c d e f g i j
theorem six_idx (h : List Bool) (hl : h.length = 9) : sixc h = (idx h).take 6 := by unfold sixc idx; rw [hl]
theorem turned (h : List Bool) (hl : h.length = 9) (h6 : 6 ≤ (idx h).length) : turns (((idx h).take 6).map frow) (solveN (((idx h).take 6).map frow)) = true := by
  have ht := tried_all h hl
  unfold tried at ht
  have e : (sixc h).length = 6 := by rw [six_idx h hl, List.length_take]; omega
  rw [frcM_eq, solveF_eq, e, six_idx h hl] at ht
  simpa using ht
theorem turns_at {R M : List (List Nat)} (h : turns R M = true) (k j : Nat) (hk : k < 6) (hj : j < 6) : xsum 6 (fun l => tim (elem R k l) (elem M l j)) = (if k = j then 1 else 0) ∧ xsum 6 (fun l => tim (elem M k l) (elem R l j)) = (if k = j then 1 else 0) := by
  unfold turns at h
  simp only [Bool.and_eq_true, List.all_eq_true, decide_eq_true_eq] at h
  have := h.2 k (by rw [List.mem_range]; exact hk) j (by rw [List.mem_range]; exact hj)
  simp only [timF_eq] at this
  exact this
theorem turns_wf {R M : List (List Nat)} (h : turns R M = true) : Wf M := by
  unfold turns at h
  simp only [Bool.and_eq_true, List.all_eq_true, decide_eq_true_eq] at h
  refine ⟨h.1.1, fun i hi => ?_⟩
  have hm : rowAt M i ∈ M := by
    unfold rowAt
    rw [List.getD_eq_getElem?_getD, List.getElem?_eq_getElem (by rw [h.1.1]; exact hi)]
    exact List.getElem_mem _
  exact h.1.2 _ hm
theorem elem_frow (IX : List Nat) (k l : Nat) (hk : k < IX.length) (hl : l < 6) : elem (IX.map frow) k l = fac (IX.getD k 0) l := by
  unfold elem
  rw [rowAt_map _ _ hk, frow_get _ _ hl]
theorem strAt_dataK (R : List (List Nat)) (l : List ByteArray) (k i : Nat) (hi : i < k) : strAt (dataK R l k) i = mixS (rowAt R i) l := by
  unfold strAt dataK
  rw [List.getD_eq_getElem?_getD, List.getElem?_map, List.getElem?_range hi]
  rfl
theorem wid_dataK (R : List (List Nat)) (l : List ByteArray) (k : Nat) (hk : 0 < k) : wid (dataK R l k) = wid l := by
  unfold wid
  rw [strAt_dataK _ _ _ _ hk, mixS_size]
  rfl
theorem evenB_dataK (R : List (List Nat)) (l : List ByteArray) (k : Nat) : evenB (dataK R l k) = true := by
  unfold evenB
  rw [List.all_eq_true]
  intro s hs
  have hk : 0 < k := by
    cases k with
    | zero => cases hs
    | succ k => omega
  rw [wid_dataK _ _ _ hk]
  obtain ⟨i, _, rfl⟩ := List.mem_map.1 hs
  rw [mixS_size]
  simp
theorem strAt_wid {l : List ByteArray} (he : evenB l = true) {k : Nat} (hk : k < l.length) : (strAt l k).size = wid l := evenB_size he (by rw [strAt_eq hk]; exact List.getElem_mem hk)
theorem accAt_fac (i : Nat) (l : List ByteArray) (p : Nat) : accAt (frow i) l 6 p = xsum 6 fun j => tim (fac i j) (byt (strAt l j) p) := by
  unfold accAt
  exact xsum_congr _ _ _ fun j hj => by rw [frow_get i j hj]
theorem accAt_elem (M : List (List Nat)) (i : Nat) (l : List ByteArray) (p : Nat) : accAt (rowAt M i) l 6 p = xsum 6 fun j => tim (elem M i j) (byt (strAt l j) p) := rfl
theorem data_back (h : List Bool) (hl : h.length = 9) (h6 : 6 ≤ (idx h).length) (d l6 : List ByteArray) (hd : d.length = 6) (he : evenB d = true) (hl6 : l6.length = 6) (hs : ∀ k, k < 6 → strAt l6 k = mixS (frow (((idx h).take 6).getD k 0)) d) :
    dataK (solveN (((idx h).take 6).map frow)) l6 6 = d := by
  have ht := turned h hl h6
  have hil : ((idx h).take 6).length = 6 := by rw [List.length_take]; omega
  generalize (idx h).take 6 = IX at *
  generalize hM : solveN (IX.map frow) = M at *
  have hw := turns_wf ht
  have hwl : wid l6 = wid d := by
    show (strAt l6 0).size = _
    rw [hs 0 (by omega), mixS_size]
  apply List.ext_getElem
  · rw [dataK_len, hd]
  · intro k h0 h2
    have h1 := h0
    rw [dataK_len] at h1
    have e0 : (dataK M l6 6)[k] = mixS (rowAt M k) l6 := by simp [dataK]
    refine e0.trans (Eq.trans ?_ (strAt_eq h2))
    refine str_ext (by rw [mixS_size, hwl, strAt_wid he h2]) fun p hp => ?_
    rw [mixS_size] at hp
    have hp6 : p < wid d := by rw [← hwl]; exact hp
    rw [byt_mix _ _ _ hp, hl6, accAt_elem]
    have e1 : ∀ j, j < 6 → byt (strAt l6 j) p = xsum 6 fun m => tim (elem (IX.map frow) j m) (byt (strAt d m) p) := fun j hj => by
      rw [hs j hj, byt_mix _ _ _ hp6, hd, accAt_fac]
      exact xsum_congr _ _ _ fun m hm => by rw [elem_frow IX j m (by omega) hm]
    rw [xsum_congr 6 _ (fun j => tim (elem M k j) (xsum 6 fun m => tim (elem (IX.map frow) j m) (byt (strAt d m) p))) (fun j hj => congrArg (tim (elem M k j)) (e1 j hj))]
    rw [dot_assoc 6 6 _ _ _ (fun j hj => elem_le hw h1 hj) (fun j m hj hm => by rw [elem_frow IX j m (by omega) hm]; exact fac_le _ _) (fun m _ => byt_le _ _)]
    rw [xsum_congr 6 _ (fun m => tim (if k = m then 1 else 0) (byt (strAt d m) p)) (fun m hm => by rw [(turns_at ht k m h1 hm).2])]
    rw [xsum_unit 6 k _ (fun j _ => byt_le _ _), if_pos h1]
theorem strAt_enc (d : List ByteArray) (i : Nat) (hi : i < 9) : strAt (encL d) i = mixS (frow i) d := by
  unfold strAt encL
  rw [List.getD_eq_getElem?_getD, List.getElem?_map, List.getElem?_range hi]
  rfl
theorem enc_data (d : List ByteArray) (hd : d.length = 6) (he : evenB d = true) (i : Nat) (hi : i < 6) : mixS (frow i) d = strAt d i := by
  refine str_ext (by rw [mixS_size, strAt_wid he (by omega)]) fun p hp => ?_
  rw [mixS_size] at hp
  rw [byt_mix _ _ _ hp, hd, accAt_fac]
  rw [xsum_congr 6 _ (fun j => tim (if i = j then 1 else 0) (byt (strAt d j) p)) (fun j hj => by
    have : fac i j = if i = j then 1 else 0 := by unfold fac; rw [if_neg (by omega)]
    rw [this])]
  rw [xsum_unit 6 i _ (fun j _ => byt_le _ _), if_pos hi]
theorem enc_take (d : List ByteArray) (hd : d.length = 6) (he : evenB d = true) : (encL d).take 6 = d := by
  apply List.ext_getElem
  · rw [List.length_take, encL_len, hd]; rfl
  · intro i h1 h2
    have hi : i < 6 := by omega
    rw [← strAt_eq h2, ← enc_data d hd he i hi, ← strAt_enc d i (by omega), List.getElem_take, strAt_eq (by rw [encL_len]; omega)]
theorem fillR_ok {l : List ByteArray} {h : List Bool} (hl : l.length = 9) (hh : h.length = 9) (he : evenB (leftL l h) = true) (h6 : 6 ≤ (idx h).length) : fillR l h = (encL (dataL l h), 0) := by
  unfold fillR
  rw [if_pos ⟨hl, hh⟩, if_pos he, if_neg (by omega)]
  unfold encR
  rw [if_pos ⟨dataK_len _ _ _, evenB_dataK _ _ _⟩]
theorem idx_mem {h : List Bool} {i : Nat} (hi : i ∈ idx h) : i < h.length ∧ h.getD i false = true := by
  have h1 := List.mem_filter.1 hi
  exact ⟨by simpa using h1.1, by simpa using h1.2⟩
theorem fillR_code {d : List ByteArray} (hd : d.length = 6) (he : evenB d = true) {l : List ByteArray} {h : List Bool} (hl : l.length = 9) (hh : h.length = 9) (hs : ∀ i, i < 9 → h.getD i false = true → strAt l i = strAt (encL d) i) :
    fillR l h = if (idx h).length < 6 then ([], 2) else (encL d, 0) := by
  have hsz : ∀ i ∈ idx h, (strAt l i).size = wid d := fun i hi => by
    have hm := idx_mem hi
    rw [hs i (by omega) hm.2, strAt_enc d i (by omega), mixS_size]
  have hev : evenB (leftL l h) = true := by
    unfold evenB
    rw [List.all_eq_true]
    intro s hsm
    obtain ⟨i, hi, rfl⟩ := List.mem_map.1 hsm
    have hpos : 0 < (idx h).length := List.length_pos_of_mem hi
    have hw : wid (leftL l h) = wid d := by
      unfold wid leftL
      rw [strAt_map _ _ _ hpos]
      exact hsz _ (mem_get hpos)
    rw [hw, hsz i hi]
    simp
  by_cases h6 : (idx h).length < 6
  · rw [if_pos h6]
    unfold fillR
    rw [if_pos ⟨hl, hh⟩, if_pos hev, if_pos h6]
  · rw [if_neg h6, fillR_ok hl hh hev (by omega)]
    have hdl : dataL l h = d := by
      unfold dataL
      refine data_back h hh (by omega) d _ hd he (by rw [List.length_take]; unfold leftL; rw [List.length_map]; omega) fun k hk => ?_
      have e1 : strAt ((leftL l h).take 6) k = strAt (leftL l h) k := by
        unfold strAt
        rw [List.getD_eq_getElem?_getD, List.getD_eq_getElem?_getD, List.getElem?_take, if_pos hk]
      rw [e1, getD_take _ _ _ hk]
      unfold leftL
      rw [strAt_map _ _ _ (by omega)]
      have hm := idx_mem (mem_get (P := idx h) (i := k) (by omega))
      rw [hs _ (by omega) hm.2, strAt_enc d _ (by omega)]
    rw [hdl]
end Go.Proofs.YtdcfonmjbelgbaaGreatDoor
end
section
namespace Go.Proofs.YtdcfonmjbelgbaaGreatDoor
end Go.Proofs.YtdcfonmjbelgbaaGreatDoor
end
section
namespace Go.Proofs.YtdcfonmjbelgbaaGreatDoor
end Go.Proofs.YtdcfonmjbelgbaaGreatDoor
end
section
namespace Go.Proofs.YtdcfonmjbelgbaaGreatDoor
open Go.RowKit Q Go.Proofs.YtdcfonmjbelgbaaGreatDoorW.PrintWords Go.Proofs.YtdcfonmjbelgbaaGreatDoorW.PrintLast Go.Proofs.YtdcfonmjbelgbaaGreatDoorW.PrintMore
def nx (s : List UInt8 × Int) : Nat × List UInt8 × Int := if s.2 = 0 then tk s.1 0 0 else (0, s.1, s.2)
def tx (s : List UInt8 × Int) : List UInt8 × List UInt8 × Int := if s.2 = 0 then tkT s.1 else ([], s.1, s.2)
def rdn (l : List UInt8) : Nat → List UInt8 × Int
  | 0 => (l, 0)
  | k + 1 => (nx (rdn l k)).2
def val (l : List UInt8) (k : Nat) : Nat := (nx (rdn l k)).1
def endE (s : List UInt8 × Int) : Int := if s.1 = [] then s.2 else 4
theorem nx_le (s : List UInt8 × Int) : (nx s).2.1.length ≤ s.1.length := by
  unfold nx
  split
  · exact tk_le _ _ _
  · exact Nat.le_refl _
theorem rdn_le (l : List UInt8) (k : Nat) : (rdn l k).1.length ≤ l.length := by
  induction k with
  | zero => exact Nat.le_refl _
  | succ k ih => exact Nat.le_trans (nx_le _) ih
theorem rnx_f (s : List UInt8 × Int) (h : s.1.length ≤ 140737488355328) : pack_Reader_Number.f 20 (B s.1) s.2 = some (((nx s).1 : Int), B (nx s).2.1, (nx s).2.2) := by
  obtain ⟨l, e⟩ := s
  unfold nx
  simp only
  by_cases he : e = 0
  · subst he
    rw [if_pos rfl]
    exact rnum_f l 20 h (Nat.le_refl _)
  · rw [if_neg he]
    exact rnum_err (B l) e 20 he
theorem rtx_f (s : List UInt8 × Int) (h : s.1.length ≤ 140737488355328) : pack_Reader_Text.f 21 (B s.1) s.2 = some (B (tx s).1, B (tx s).2.1, (tx s).2.2) := by
  obtain ⟨l, e⟩ := s
  unfold tx
  simp only
  by_cases he : e = 0
  · subst he
    rw [if_pos rfl]
    exact rtext_f l 21 h (Nat.le_refl _)
  · rw [if_neg he]
    exact rtext_err (B l) e 21 he (by decide)
theorem rend_f (s : List UInt8 × Int) : pack_Reader_End.f (B s.1) s.2 = some (endE s, B [], endE s) ∨ pack_Reader_End.f (B s.1) s.2 = some (endE s, B s.1, endE s) := by
  obtain ⟨l, e⟩ := s
  unfold pack_Reader_End.f endE
  simp only
  rw [B_toList]
  by_cases h : l = []
  · rw [if_pos h, if_pos h]
    exact .inr rfl
  · rw [if_neg h, if_neg h]
    exact .inl rfl
theorem nx_inv (s : List UInt8 × Int) (h : (nx s).2.2 = 0) : s.2 = 0 ∧ s.1 = enc (nx s).1 ++ (nx s).2.1 := by
  unfold nx at h ⊢
  by_cases hs : s.2 = 0
  · rw [if_pos hs] at h ⊢
    refine ⟨hs, (tk_inv0 (v := (tk s.1 0 0).1) (r := (tk s.1 0 0).2.1) ?_).1⟩
    rw [← h]
  · rw [if_neg hs] at h
    exact absurd h hs
theorem tx_inv (s : List UInt8 × Int) (h : endE (tx s).2 = 0) : s.2 = 0 ∧ s.1 = txt (tx s).1 := by
  unfold endE at h
  by_cases h1 : (tx s).2.1 = []
  · rw [if_pos h1] at h
    unfold tx at h h1 ⊢
    by_cases hs : s.2 = 0
    · rw [if_pos hs] at h h1 ⊢
      refine ⟨hs, ?_⟩
      have := (tkT_inv (l := s.1) (s := (tkT s.1).1) (r := []) (by rw [← h1, ← h])).1
      rw [List.append_nil] at this
      exact this
    · rw [if_neg hs] at h
      exact absurd h hs
  · rw [if_neg h1] at h
    exact absurd h (by decide)
theorem nx_enc (m : Nat) (r : List UInt8) (h : m < 2 ^ 56) : nx (enc m ++ r, 0) = (m, r, 0) := by
  unfold nx
  simp only [if_true]
  exact tk_zero m r h
end Go.Proofs.YtdcfonmjbelgbaaGreatDoor
end
section
namespace Go.Proofs.YtdcfonmjbelgbaaGreatDoor
open Go.RowKit Q Go.Proofs.YtdcfonmjbelgbaaGreatDoorW.PrintWords Go.Proofs.YtdcfonmjbelgbaaGreatDoorW.PrintLast Go.Proofs.YtdcfonmjbelgbaaGreatDoorW.PrintMore
def cutp (u : List UInt8) : List UInt8 × Bool := if u.take 2 = [83, 71] then (u.drop 2, true) else (u, false)
theorem cutp_f (u : List UInt8) : strings_CutPrefix.f (B u) ⟨#[83, 71]⟩ = some (B (cutp u).1, (cutp u).2) := by
  have h2 : (⟨#[83, 71]⟩ : ByteArray).size = 2 := rfl
  have hl : (⟨#[83, 71]⟩ : ByteArray).toList = [83, 71] := by rw [ByteArray.toList_eq]
  have hx : ((B u).extract 0 2).toList = u.take 2 := by rw [B_extract, B_toList, List.drop_zero]
  unfold strings_CutPrefix.f stringslite_CutPrefix.f stringslite_HasPrefix.f cutp
  rw [h2, hl, hx, B_size]
  by_cases hs : 2 ≤ u.length
  · rw [if_pos (by omega), if_pos (by omega), if_pos (by omega)]
    simp only [Option.bind_some]
    by_cases he : u.take 2 = [83, 71]
    · rw [he]
      simp only [beq_self_eq_true, if_true]
      rw [if_pos (by omega), if_pos (by omega)]
      simp only [Option.bind_some]
      rw [B_extract, List.take_of_length_le (by rw [List.length_drop]; exact Nat.le_refl _)]
    · have hb : (u.take 2 == [83, 71]) = false := by simpa using he
      rw [hb, if_neg he]
      rfl
  · rw [if_neg (by omega)]
    have he : ¬ u.take 2 = [83, 71] := by
      intro h
      have := congrArg List.length h
      rw [List.length_take] at this
      simp only [List.length_cons, List.length_nil] at this
      omega
    rw [if_neg he]
    rfl
end Go.Proofs.YtdcfonmjbelgbaaGreatDoor
namespace Go.Proofs.YtdcfonmjbelgbaaGreatDoor
open Go.RowKit Q Go.Proofs.YtdcfonmjbelgbaaGreatDoorW.PrintWords Go.Proofs.YtdcfonmjbelgbaaGreatDoorW.PrintLast Go.Proofs.YtdcfonmjbelgbaaGreatDoorW.PrintMore
def secR (m : List UInt8) : Int × Int × Int × Int × Int × ByteArray × Int :=
  if (openL m).2 ≠ 0 then (0, 0, 0, 0, 0, B [], (openL m).2)
  else
    if (cutp (openL m).1.data.toList).2 = true ∧ endE (tx (rdn (cutp (openL m).1.data.toList).1 5)).2 = 0 ∧ chk (val (cutp (openL m).1.data.toList).1 0) (val (cutp (openL m).1.data.toList).1 1) (val (cutp (openL m).1.data.toList).1 2) (val (cutp (openL m).1.data.toList).1 3) (val (cutp (openL m).1.data.toList).1 4) (tx (rdn (cutp (openL m).1.data.toList).1 5)).1.length = 0 then
      (val (cutp (openL m).1.data.toList).1 0, val (cutp (openL m).1.data.toList).1 1, val (cutp (openL m).1.data.toList).1 2, val (cutp (openL m).1.data.toList).1 3, val (cutp (openL m).1.data.toList).1 4, B (tx (rdn (cutp (openL m).1.data.toList).1 5)).1, 0)
    else (0, 0, 0, 0, 0, B [], 4)
def hcs (l : List UInt8) (k : Nat) : Array Value := #[.int .i64 (if 0 < k then (val l 0 : Int) else 0), .int .i64 (if 1 < k then (val l 1 : Int) else 0), .int .i64 (if 2 < k then (val l 2 : Int) else 0), .int .i64 (if 3 < k then (val l 3 : Int) else 0), .int .i64 (if 4 < k then (val l 4 : Int) else 0), .string ⟨#[]⟩]
theorem hcs_set (l : List UInt8) (k : Nat) (hk : k < 5) : (hcs l k).setIfInBounds k (.int .i64 (val l k : Int)) = hcs l (k + 1) := by
  match k, hk with
  | 0, _ => rfl
  | 1, _ => rfl
  | 2, _ => rfl
  | 3, _ => rfl
  | 4, _ => rfl
theorem hcs_at (l : List UInt8) (k : Nat) (hk : k < 5) : ∃ v, (hcs l k)[k]? = some v := by
  match k, hk with
  | 0, _ => exact ⟨_, rfl⟩
  | 1, _ => exact ⟨_, rfl⟩
  | 2, _ => exact ⟨_, rfl⟩
  | 3, _ => exact ⟨_, rfl⟩
  | 4, _ => exact ⟨_, rfl⟩
def ptrs (h : Nat) : Array Value := #[.pointer (some ⟨h, 0, none⟩), .pointer (some ⟨h, 1, none⟩), .pointer (some ⟨h, 2, none⟩), .pointer (some ⟨h, 3, none⟩), .pointer (some ⟨h, 4, none⟩)]
theorem ptrs_at (h k : Nat) (hk : k < 5) : (ptrs h)[k]? = some (.pointer (some ⟨h, k, none⟩)) := by
  match k, hk with
  | 0, _ => rfl
  | 1, _ => rfl
  | 2, _ => rfl
  | 3, _ => rfl
  | 4, _ => rfl
theorem one6 (a b c d e : Int) (t : ByteArray) : (#[.int .i64 a, .int .i64 b, .int .i64 c, .int .i64 d, .int .i64 e, .string t] : Array Value).all (·.oneCell') = true := by simp [Value.oneCell']
theorem zeroH (w : World) : (zeroValue 61).run Tryz.prog w = .ok (.agg #[.int .i64 0, .int .i64 0, .int .i64 0, .int .i64 0, .int .i64 0, .string ⟨#[]⟩]) w := by kernel_rfl
set_option maxRecDepth 100000 in
set_option maxHeartbeats 1000000 in
theorem read_calls (m : List UInt8) (hm : m.length ≤ 140737488355328) (w : World) : Calls Tryz.prog 73 #[.string (B m)] w fun e w' => e = .returned (.tuple #[.agg #[.int .i64 (secR m).1, .int .i64 (secR m).2.1, .int .i64 (secR m).2.2.1, .int .i64 (secR m).2.2.2.1, .int .i64 (secR m).2.2.2.2.1, .string (secR m).2.2.2.2.2.1], .int .i64 (secR m).2.2.2.2.2.2]) ∧ Below w.heap.size w w' := by
  have hzH := zeroH
  have hu25 := Tryz.underlying61
  have hu23 := Tryz.underlying59
  have HO := Lib.hid (open_f m hm)
  have HR : Aside0 (Blk (w.alloc (.cells #[.int .i64 0, .int .i64 0, .int .i64 0, .int .i64 0, .int .i64 0, .string ⟨#[]⟩] 61)) w.heap.size #[.int .i64 0, .int .i64 0, .int .i64 0, .int .i64 0, .int .i64 0, .string ⟨#[]⟩] 61) := ⟨Blk.new w _ _⟩
  have HB : Aside0 (Below w.heap.size w (w.alloc (.cells #[.int .i64 0, .int .i64 0, .int .i64 0, .int .i64 0, .int .i64 0, .string ⟨#[]⟩] 61))) := ⟨(Below.refl _ _).alloc (Nat.le_refl _) _⟩
  go_enter Tryz.func73, Tryz.ntmps73
  go_wp2_with fail
  refine Calls.mono (check_Open.calls _ (openL m).1 (openL m).2 _ HO.out) ?_
  rintro e w1 ⟨rfl, b1⟩
  have HR := Aside0.mk (HR.out.keep b1)
  have HB := Aside0.mk (below2 HB.out HB.out.size b1)
  clear b1 HO
  obtain ⟨o1, e1, ho⟩ : ∃ o1 e1, openL m = (o1, e1) := ⟨_, _, rfl⟩
  rw [ho]
  by_cases he : e1 = 0
  · subst he
    obtain ⟨u, rfl⟩ := exB o1
    have HRES : Hid (∀ l is, cutp u = (l, is) → secR m = if is = true ∧ endE (tx (rdn l 5)).2 = 0 ∧ chk (val l 0) (val l 1) (val l 2) (val l 3) (val l 4) (tx (rdn l 5)).1.length = 0 then ((val l 0 : Int), (val l 1 : Int), (val l 2 : Int), (val l 3 : Int), (val l 4 : Int), B (tx (rdn l 5)).1, 0) else (0, 0, 0, 0, 0, B [], 4)) := Lib.hid (by
      intro l is hcut
      have hd : (B u).data.toList = u := rfl
      unfold secR
      rw [ho]
      simp only [ne_eq, not_true_eq_false, if_false, hd, hcut])
    have hul : u.length ≤ m.length := by
      rcases openL_cases m with ⟨_, h⟩ | ⟨_, _, h⟩ | ⟨u', h1, h2⟩
      · rw [ho] at h; cases h
      · rw [ho] at h; cases h
      · rw [ho] at h2
        have : u = u' := B_inj (congrArg Prod.fst h2)
        rw [h1, sealL_len, this]
        exact Nat.le_add_right _ _
    clear ho
    go_wp2_with fail
    refine Calls.mono (strings_CutPrefix.calls (B u) ⟨#[83, 71]⟩ _ _ w1 (cutp_f u)) ?_
    rintro e w2 ⟨rfl, hd⟩
    have HR := Aside0.mk (HR.out.keep hd.below)
    have HB := Aside0.mk (below2 HB.out HB.out.size hd.below)
    clear hd
    obtain ⟨l, is, hcut⟩ : ∃ l is, cutp u = (l, is) := ⟨_, _, rfl⟩
    have HRES := Lib.hid (HRES.out l is hcut)
    have hll : l.length ≤ 140737488355328 := by
      have : l.length ≤ u.length := by
        unfold cutp at hcut
        split at hcut
        · have := congrArg Prod.fst hcut
          simp only at this
          rw [← this, List.length_drop]; omega
        · have := congrArg Prod.fst hcut
          simp only at this
          rw [this]; exact Nat.le_refl _
      omega
    rw [hcut]
    clear hcut hul hm
    go_wp2_with fail
    have hRlt := HR.out.lt
    refine Calls.mono (pack_Read.calls (B l) (B l) 0 w2 w2 (Below.refl _ _) rfl) ?_
    rintro e w3 ⟨g, rfl, hI, b3, _⟩
    have HI := Aside0.mk hI
    have HR := Aside0.mk (HR.out.keep b3)
    have HB := Aside0.mk (below2 HB.out HB.out.size b3)
    have hgg : w.heap.size < g ∧ g < w3.heap.size := ⟨Nat.lt_of_lt_of_le hRlt hI.2, (Array.getElem?_eq_some_iff.1 hI.1).1⟩
    clear hI b3 hRlt
    go_wp2_with fail
    have HI := Aside0.mk ((HI.out.alloc (.cells #[.int .i64 0, .int .i64 0, .int .i64 0, .int .i64 0, .int .i64 0, .string ⟨#[]⟩] 61)).alloc (.cells (ptrs w3.heap.size) 141))
    have HR := Aside0.mk ((HR.out.alloc (.cells #[.int .i64 0, .int .i64 0, .int .i64 0, .int .i64 0, .int .i64 0, .string ⟨#[]⟩] 61)).alloc (.cells (ptrs w3.heap.size) 141))
    have HH : Aside0 (Blk ((w3.alloc (.cells #[.int .i64 0, .int .i64 0, .int .i64 0, .int .i64 0, .int .i64 0, .string ⟨#[]⟩] 61)).alloc (.cells (ptrs w3.heap.size) 141)) w3.heap.size (hcs l 0) 61) := ⟨(Blk.new w3 _ _).alloc _⟩
    have HP : Aside0 (Blk ((w3.alloc (.cells #[.int .i64 0, .int .i64 0, .int .i64 0, .int .i64 0, .int .i64 0, .string ⟨#[]⟩] 61)).alloc (.cells (ptrs w3.heap.size) 141)) (w3.heap.size + 1) (ptrs w3.heap.size) 141) := ⟨by
      have := Blk.new (w3.alloc (.cells #[.int .i64 0, .int .i64 0, .int .i64 0, .int .i64 0, .int .i64 0, .string ⟨#[]⟩] 61)) (ptrs w3.heap.size) 141
      simp only [World.size_alloc] at this
      exact this⟩
    have HB := Aside0.mk (below_alloc (below_alloc HB.out (.cells #[.int .i64 0, .int .i64 0, .int .i64 0, .int .i64 0, .int .i64 0, .string ⟨#[]⟩] 61)) (.cells (ptrs w3.heap.size) 141))
    obtain ⟨hb0, hhb⟩ : ∃ hb0, hb0 = w3.heap.size := ⟨_, rfl⟩
    rw [← hhb] at HI HH HP HR HB hgg
    rw [← hhb]
    clear hhb
    go_loopw [36] (fun n wr => ∃ k : Nat, k ≤ 5 ∧ n = .int .i64 k ∧ Aside0 (IsS159 w wr g (B (rdn l k).1) (rdn l k).2) ∧ Aside0 (Blk wr hb0 (hcs l k) 61) ∧ Aside0 (Blk wr (hb0 + 1) (ptrs hb0) 141) ∧ Aside0 (Blk wr w.heap.size #[.int .i64 0, .int .i64 0, .int .i64 0, .int .i64 0, .int .i64 0, .string ⟨#[]⟩] 61) ∧ Aside0 (Below w.heap.size w wr)) (fun n _ => 5 - (intOf n).toNat)
    case atStart => exact ⟨0, by omega, rfl, ⟨HI.out.1, by omega⟩, HH, HP, HR, HB⟩
    case round =>
      clear HI HH HP HR HB
      obtain ⟨k, hk, rfl, HI, HH, HP, HR, HB⟩ := hrel
      by_cases hlt : k < 5
      · have hpc := HP.out.cell (ptrs_at hb0 k hlt)
        have HN := Lib.hid (rnx_f (rdn l k) (Nat.le_trans (rdn_le l k) hll))
        go_wp2_with fail
        refine Calls.mono (pack_Reader_Number.calls 20 g _ _ _ _ _ w wr HI.out HB.out HN.out) ?_
        rintro e w4 ⟨rfl, hI4, hB4, hK4⟩
        have HI := Aside0.mk hI4
        have HB := Aside0.mk hB4
        have HH := Aside0.mk (HH.out.but hK4 (by omega))
        have HP := Aside0.mk (HP.out.but hK4 (by omega))
        have HR := Aside0.mk (HR.out.but hK4 (by omega))
        clear hI4 hB4 hK4 hpc HN
        obtain ⟨hv0, hva⟩ := hcs_at l k hlt
        have hc := HH.out.cell hva
        have hf := HH.out.free k
        have HS := Lib.hid (hcs_set l k hlt)
        have HV : Hid (((nx (rdn l k)).1 : Int) = (val l k : Int)) := Lib.hid rfl
        have HN2 : Hid ((nx (rdn l k)).2 = rdn l (k + 1)) := Lib.hid rfl
        go_wp2_with fail
        go_roundw
        case measure => simp [intOf]; omega
        case rel =>
          refine ⟨k + 1, by omega, by go_num, ⟨?_, HI.out.2⟩, ⟨?_⟩, ⟨HP.out.other (by omega) _ _⟩, ⟨HR.out.other (by omega) _ _⟩, ⟨HB.out.setCell (by show w.heap.size ≤ hb0; omega) _⟩⟩
          · rw [← HN2.out]
            exact (Below.heap_setCell _ _ _ _ (by show g ≠ hb0; omega)).trans HI.out.1
          · have := HH.out.set k (.int .i64 (val l k : Int))
            rw [HS.out] at this
            exact this
      · obtain rfl : k = 5 := by omega
        have HX := Lib.hid (rtx_f (rdn l 5) (Nat.le_trans (rdn_le l 5) hll))
        go_wp2_with fail
        refine Calls.mono (pack_Reader_Text.calls 21 g _ _ _ _ _ w wr HI.out HB.out HX.out) ?_
        rintro e w4 ⟨rfl, hI4, hB4, hK4⟩
        have HI := Aside0.mk hI4
        have HB := Aside0.mk hB4
        have HH := Aside0.mk (HH.out.but hK4 (by omega))
        have HR := Aside0.mk (HR.out.but hK4 (by omega))
        clear hI4 hB4 hK4 HX HP
        obtain ⟨x, s5, hx⟩ : ∃ x s5, tx (rdn l 5) = (x, s5) := ⟨_, _, rfl⟩
        rw [hx] at HI HRES ⊢
        clear hx
        have hc := HH.out.cell (i := 5) (v := .string ⟨#[]⟩) rfl
        have hf := HH.out.free 5
        have HH := Aside0.mk (show Blk (w4.setCell ⟨hb0, 5, none⟩ (.string (B x))) hb0 #[.int .i64 (val l 0 : Int), .int .i64 (val l 1 : Int), .int .i64 (val l 2 : Int), .int .i64 (val l 3 : Int), .int .i64 (val l 4 : Int), .string (B x)] 61 from HH.out.set 5 (.string (B x)))
        have HR := Aside0.mk (HR.out.other (g' := hb0) (by omega) 5 (.string (B x)))
        have HB := Aside0.mk (HB.out.setCell (p := ⟨hb0, 5, none⟩) (by show w.heap.size ≤ hb0; omega) (.string (B x)))
        have HI := Aside0.mk (show IsS159 w (w4.setCell ⟨hb0, 5, none⟩ (.string (B x))) g (B s5.1) s5.2 from ⟨(Below.heap_setCell _ _ _ _ (by show g ≠ hb0; omega)).trans HI.out.1, HI.out.2⟩)
        cases is
        · have HRES := Lib.hid (show secR m = (0, 0, 0, 0, 0, B [], 4) from HRES.out.trans (if_neg (by simp)))
          go_wp2_with (refine gate_ (.store 61 (.tmp 2) (.tmp 60)) rfl ?_; refine wpList_plain rfl (fun K hK => ?_); refine wp_store_row 61 (.tmp 2) (.tmp 60) rfl w.heap.size #[.int .i64 0, .int .i64 0, .int .i64 0, .int .i64 0, .int .i64 0, .string ⟨#[]⟩] rfl rfl 61 #[.int .i64 0, .int .i64 0, .int .i64 0, .int .i64 0, .int .i64 0, .string ⟨#[]⟩] HR.out (by kernel_rfl) rfl (one6 _ _ _ _ _ _) (hK _ _ ?_); clear hK K; simp only [Act.put])
          have HF := Aside0.mk (show Blk ((w4.setCell ⟨hb0, 5, none⟩ (.string (B x))).setRow w.heap.size #[.int .i64 0, .int .i64 0, .int .i64 0, .int .i64 0, .int .i64 0, .string ⟨#[]⟩]) w.heap.size #[.int .i64 0, .int .i64 0, .int .i64 0, .int .i64 0, .int .i64 0, .string ⟨#[]⟩] 61 from setRow_heap (w4.setCell ⟨hb0, 5, none⟩ (.string (B x))) _ _ _ _ _ HR.out)
          have HB := Aside0.mk (below_setRow' HB.out (Nat.le_refl _) #[.int .i64 0, .int .i64 0, .int .i64 0, .int .i64 0, .int .i64 0, .string ⟨#[]⟩])
          generalize (w4.setCell ⟨hb0, 5, none⟩ (.string (B x))).setRow w.heap.size #[.int .i64 0, .int .i64 0, .int .i64 0, .int .i64 0, .int .i64 0, .string ⟨#[]⟩] = wf at *
          go_wp2_with fail
          obtain ⟨r0, r1, r2, r3, r4, r5⟩ := six HF.out
          exact bodyPost_ret (v := .tuple #[.agg #[.int .i64 0, .int .i64 0, .int .i64 0, .int .i64 0, .int .i64 0, .string ⟨#[]⟩], .int .i64 4]) (by simp [results, Tryz.results73, go_sem, r0, r1, r2, r3, r4, r5]) rfl ⟨by rw [HRES.out]; rfl, HB.out⟩
        · obtain ⟨r2, hE⟩ : ∃ r2, pack_Reader_End.f (B s5.1) s5.2 = some (endE s5, r2, endE s5) := (rend_f s5).elim (fun h => ⟨_, h⟩) (fun h => ⟨_, h⟩)
          have HE := Lib.hid hE
          clear hE
          go_wp2_with fail
          refine Calls.mono (pack_Reader_End.calls g _ _ _ _ _ w (w4.setCell ⟨hb0, 5, none⟩ (.string (B x))) HI.out HB.out HE.out) ?_
          rintro e w5 ⟨rfl, hI5, hB5, hK5⟩
          have HB := Aside0.mk hB5
          have HH := Aside0.mk (HH.out.but hK5 (by omega))
          have HR := Aside0.mk (HR.out.but hK5 (by omega))
          clear hI5 hB5 hK5 HE HI hc hf
          by_cases he : endE s5 = 0
          · have HRES := Lib.hid (HRES.out.trans (by rw [he]))
            rw [he]
            obtain ⟨c0, c1, c2, c3, c4, c5⟩ := six HH.out
            go_wp2_with fail
            have hRlt := HR.out.lt
            have hHlt := HH.out.lt
            refine Calls.mono (right_calls _ _ _ _ _ _ w5) ?_
            rintro e w6 ⟨rfl, b6⟩
            have HH := Aside0.mk (HH.out.keep b6)
            have HR := Aside0.mk (HR.out.keep b6)
            have HB := Aside0.mk (below2 HB.out HB.out.size b6)
            clear b6 c0 c1 c2 c3 c4 c5 hRlt hHlt
            have HRES := Lib.hid (show secR m = if chk (val l 0) (val l 1) (val l 2) (val l 3) (val l 4) (B x).size = 0 then ((val l 0 : Int), (val l 1 : Int), (val l 2 : Int), (val l 3 : Int), (val l 4 : Int), B x, 0) else (0, 0, 0, 0, 0, B [], 4) from HRES.out.trans (by rw [B_size]; simp))
            obtain ⟨y, hy⟩ : ∃ y, chk (val l 0) (val l 1) (val l 2) (val l 3) (val l 4) (B x).size = y := ⟨_, rfl⟩
            rw [hy] at HRES ⊢
            clear hy
            obtain ⟨c0, c1, c2, c3, c4, c5⟩ := six HH.out
            by_cases hy : y = 0
            · subst hy
              have HRES := Lib.hid (HRES.out.trans (if_pos rfl))
              go_wp2_with (refine gate_ (.store 61 (.tmp 2) (.tmp 61)) rfl ?_; refine wpList_plain rfl (fun K hK => ?_); refine wp_store_row 61 (.tmp 2) (.tmp 61) rfl w.heap.size #[.int .i64 (val l 0 : Int), .int .i64 (val l 1 : Int), .int .i64 (val l 2 : Int), .int .i64 (val l 3 : Int), .int .i64 (val l 4 : Int), .string (B x)] rfl rfl 61 #[.int .i64 0, .int .i64 0, .int .i64 0, .int .i64 0, .int .i64 0, .string ⟨#[]⟩] HR.out (by kernel_rfl) rfl (one6 _ _ _ _ _ _) (hK _ _ ?_); clear hK K; simp only [Act.put])
              have HF := Aside0.mk (show Blk (w6.setRow w.heap.size #[.int .i64 (val l 0 : Int), .int .i64 (val l 1 : Int), .int .i64 (val l 2 : Int), .int .i64 (val l 3 : Int), .int .i64 (val l 4 : Int), .string (B x)]) w.heap.size #[.int .i64 (val l 0 : Int), .int .i64 (val l 1 : Int), .int .i64 (val l 2 : Int), .int .i64 (val l 3 : Int), .int .i64 (val l 4 : Int), .string (B x)] 61 from setRow_heap w6 _ _ _ _ _ HR.out)
              have HB := Aside0.mk (below_setRow' HB.out (Nat.le_refl _) #[.int .i64 (val l 0 : Int), .int .i64 (val l 1 : Int), .int .i64 (val l 2 : Int), .int .i64 (val l 3 : Int), .int .i64 (val l 4 : Int), .string (B x)])
              generalize w6.setRow w.heap.size #[.int .i64 (val l 0 : Int), .int .i64 (val l 1 : Int), .int .i64 (val l 2 : Int), .int .i64 (val l 3 : Int), .int .i64 (val l 4 : Int), .string (B x)] = wf at *
              go_wp2_with fail
              obtain ⟨r0, r1, r2, r3, r4, r5⟩ := six HF.out
              exact bodyPost_ret (v := .tuple #[.agg #[.int .i64 (val l 0 : Int), .int .i64 (val l 1 : Int), .int .i64 (val l 2 : Int), .int .i64 (val l 3 : Int), .int .i64 (val l 4 : Int), .string (B x)], .int .i64 0]) (by simp [results, Tryz.results73, go_sem, r0, r1, r2, r3, r4, r5]) rfl ⟨by rw [HRES.out]; rfl, HB.out⟩
            · have HRES := Lib.hid (HRES.out.trans (if_neg hy))
              have t1 : (y == 0) = false := by simpa using hy
              have t2 : (y != 0) = true := by simp [bne, t1]
              clear hy
              go_wp2_with (refine gate_ (.store 61 (.tmp 2) (.tmp 60)) rfl ?_; refine wpList_plain rfl (fun K hK => ?_); refine wp_store_row 61 (.tmp 2) (.tmp 60) rfl w.heap.size #[.int .i64 0, .int .i64 0, .int .i64 0, .int .i64 0, .int .i64 0, .string ⟨#[]⟩] rfl rfl 61 #[.int .i64 0, .int .i64 0, .int .i64 0, .int .i64 0, .int .i64 0, .string ⟨#[]⟩] HR.out (by kernel_rfl) rfl (one6 _ _ _ _ _ _) (hK _ _ ?_); clear hK K; simp only [Act.put])
              have HF := Aside0.mk (show Blk (w6.setRow w.heap.size #[.int .i64 0, .int .i64 0, .int .i64 0, .int .i64 0, .int .i64 0, .string ⟨#[]⟩]) w.heap.size #[.int .i64 0, .int .i64 0, .int .i64 0, .int .i64 0, .int .i64 0, .string ⟨#[]⟩] 61 from setRow_heap w6 _ _ _ _ _ HR.out)
              have HB := Aside0.mk (below_setRow' HB.out (Nat.le_refl _) #[.int .i64 0, .int .i64 0, .int .i64 0, .int .i64 0, .int .i64 0, .string ⟨#[]⟩])
              generalize w6.setRow w.heap.size #[.int .i64 0, .int .i64 0, .int .i64 0, .int .i64 0, .int .i64 0, .string ⟨#[]⟩] = wf at *
              go_wp2_with fail
              obtain ⟨r0, r1, r2, r3, r4, r5⟩ := six HF.out
              exact bodyPost_ret (v := .tuple #[.agg #[.int .i64 0, .int .i64 0, .int .i64 0, .int .i64 0, .int .i64 0, .string ⟨#[]⟩], .int .i64 4]) (by simp [results, Tryz.results73, go_sem, r0, r1, r2, r3, r4, r5]) rfl ⟨by rw [HRES.out]; rfl, HB.out⟩
          · have HRES := Lib.hid (show secR m = (0, 0, 0, 0, 0, B [], 4) from HRES.out.trans (if_neg (fun h => he h.2.1)))
            have t1 : (endE s5 == 0) = false := by simpa using he
            have t2 : (endE s5 != 0) = true := by simp [bne, t1]
            clear he
            go_wp2_with (refine gate_ (.store 61 (.tmp 2) (.tmp 60)) rfl ?_; refine wpList_plain rfl (fun K hK => ?_); refine wp_store_row 61 (.tmp 2) (.tmp 60) rfl w.heap.size #[.int .i64 0, .int .i64 0, .int .i64 0, .int .i64 0, .int .i64 0, .string ⟨#[]⟩] rfl rfl 61 #[.int .i64 0, .int .i64 0, .int .i64 0, .int .i64 0, .int .i64 0, .string ⟨#[]⟩] HR.out (by kernel_rfl) rfl (one6 _ _ _ _ _ _) (hK _ _ ?_); clear hK K; simp only [Act.put])
            have HF := Aside0.mk (show Blk (w5.setRow w.heap.size #[.int .i64 0, .int .i64 0, .int .i64 0, .int .i64 0, .int .i64 0, .string ⟨#[]⟩]) w.heap.size #[.int .i64 0, .int .i64 0, .int .i64 0, .int .i64 0, .int .i64 0, .string ⟨#[]⟩] 61 from setRow_heap w5 _ _ _ _ _ HR.out)
            have HB := Aside0.mk (below_setRow' HB.out (Nat.le_refl _) #[.int .i64 0, .int .i64 0, .int .i64 0, .int .i64 0, .int .i64 0, .string ⟨#[]⟩])
            generalize w5.setRow w.heap.size #[.int .i64 0, .int .i64 0, .int .i64 0, .int .i64 0, .int .i64 0, .string ⟨#[]⟩] = wf at *
            go_wp2_with fail
            obtain ⟨r0, r1, r2, r3, r4, r5⟩ := six HF.out
            exact bodyPost_ret (v := .tuple #[.agg #[.int .i64 0, .int .i64 0, .int .i64 0, .int .i64 0, .int .i64 0, .string ⟨#[]⟩], .int .i64 4]) (by simp [results, Tryz.results73, go_sem, r0, r1, r2, r3, r4, r5]) rfl ⟨by rw [HRES.out]; rfl, HB.out⟩
  · have HRES := Lib.hid (show secR m = (0, 0, 0, 0, 0, B [], e1) by unfold secR; rw [ho, if_pos he])
    have t1 : (e1 == 0) = false := by simpa using he
    have t2 : (e1 != 0) = true := by simp [bne, t1]
    clear he ho
    go_wp2_with (refine gate_ (.store 61 (.tmp 2) (.tmp 18)) rfl ?_; refine wpList_plain rfl (fun K hK => ?_); refine wp_store_row 61 (.tmp 2) (.tmp 18) rfl w.heap.size #[.int .i64 0, .int .i64 0, .int .i64 0, .int .i64 0, .int .i64 0, .string ⟨#[]⟩] rfl rfl 61 #[.int .i64 0, .int .i64 0, .int .i64 0, .int .i64 0, .int .i64 0, .string ⟨#[]⟩] HR.out (by kernel_rfl) rfl (one6 _ _ _ _ _ _) (hK _ _ ?_); clear hK K; simp only [Act.put])
    have HF := Aside0.mk (show Blk (w1.setRow w.heap.size #[.int .i64 0, .int .i64 0, .int .i64 0, .int .i64 0, .int .i64 0, .string ⟨#[]⟩]) w.heap.size #[.int .i64 0, .int .i64 0, .int .i64 0, .int .i64 0, .int .i64 0, .string ⟨#[]⟩] 61 from setRow_heap w1 _ _ _ _ _ HR.out)
    have HB := Aside0.mk (below_setRow' HB.out (Nat.le_refl _) #[.int .i64 0, .int .i64 0, .int .i64 0, .int .i64 0, .int .i64 0, .string ⟨#[]⟩])
    generalize w1.setRow w.heap.size #[.int .i64 0, .int .i64 0, .int .i64 0, .int .i64 0, .int .i64 0, .string ⟨#[]⟩] = wf at *
    go_wp2_with fail
    obtain ⟨r0, r1, r2, r3, r4, r5⟩ := six HF.out
    exact bodyPost_ret (v := .tuple #[.agg #[.int .i64 0, .int .i64 0, .int .i64 0, .int .i64 0, .int .i64 0, .string ⟨#[]⟩], .int .i64 e1]) (by simp [results, Tryz.results73, go_sem, r0, r1, r2, r3, r4, r5]) rfl ⟨by rw [HRES.out]; rfl, HB.out⟩
end Go.Proofs.YtdcfonmjbelgbaaGreatDoor
end
section
namespace Go.Proofs.YtdcfonmjbelgbaaGreatDoor
open Go.RowKit Q Go.Proofs.YtdcfonmjbelgbaaGreatDoorW.PrintWords Go.Proofs.YtdcfonmjbelgbaaGreatDoorW.PrintLast Go.Proofs.YtdcfonmjbelgbaaGreatDoorW.PrintMore
theorem five_inv (l : List UInt8) (h : endE (tx (rdn l 5)).2 = 0) : [83, 71] ++ l = secT (val l 0) (val l 1) (val l 2) (val l 3) (val l 4) (tx (rdn l 5)).1 := by
  obtain ⟨h5, e5⟩ := tx_inv _ h
  obtain ⟨h4, e4⟩ := nx_inv (rdn l 4) h5
  obtain ⟨h3, e3⟩ := nx_inv (rdn l 3) h4
  obtain ⟨h2, e2⟩ := nx_inv (rdn l 2) h3
  obtain ⟨h1, e1⟩ := nx_inv (rdn l 1) h2
  obtain ⟨_, e0⟩ := nx_inv (rdn l 0) h1
  have e4 : (rdn l 4).1 = enc (val l 4) ++ (rdn l 5).1 := e4
  have e3 : (rdn l 3).1 = enc (val l 3) ++ (rdn l 4).1 := e3
  have e2 : (rdn l 2).1 = enc (val l 2) ++ (rdn l 3).1 := e2
  have e1 : (rdn l 1).1 = enc (val l 1) ++ (rdn l 2).1 := e1
  have e0 : l = enc (val l 0) ++ (rdn l 1).1 := e0
  rw [e5] at e4
  rw [e4] at e3
  rw [e3] at e2
  rw [e2] at e1
  rw [e1] at e0
  unfold secT
  simp only [List.append_assoc]
  rw [← e0]
end Go.Proofs.YtdcfonmjbelgbaaGreatDoor
namespace Go.Proofs.YtdcfonmjbelgbaaGreatDoor
open Go.RowKit Q Go.Proofs.YtdcfonmjbelgbaaGreatDoorW.PrintWords Go.Proofs.YtdcfonmjbelgbaaGreatDoorW.PrintLast Go.Proofs.YtdcfonmjbelgbaaGreatDoorW.PrintMore
end Go.Proofs.YtdcfonmjbelgbaaGreatDoor
namespace Go.Proofs.YtdcfonmjbelgbaaGreatDoor
open Go.RowKit Q Go.Proofs.YtdcfonmjbelgbaaGreatDoorW.PrintWords Go.Proofs.YtdcfonmjbelgbaaGreatDoorW.PrintLast Go.Proofs.YtdcfonmjbelgbaaGreatDoorW.PrintMore
theorem secR_back (v g i d s : Nat) (t : List UInt8) (hc : chk v g i d s t.length = 0) : secR (sealL (secT v g i d s t)) = ((v : Int), (g : Int), (i : Int), (d : Int), (s : Int), B t, 0) := by
  obtain ⟨⟨_, hv, _, hg, _, hi, _, hd, _, hs⟩, ht⟩ := chk_ok (v := (v : Int)) (g := (g : Int)) (i := (i : Int)) (d := (d : Int)) (s := (s : Int)) (n := t.length) hc
  obtain ⟨l, hl⟩ : ∃ l, l = enc v ++ (enc g ++ (enc i ++ (enc d ++ (enc s ++ txt t)))) := ⟨_, rfl⟩
  have hu : secT v g i d s t = [83, 71] ++ l := by
    rw [hl]
    unfold secT
    simp only [List.append_assoc]
  have r1 : nx (rdn l 0) = (v, enc g ++ (enc i ++ (enc d ++ (enc s ++ txt t))), 0) := by
    show nx (l, 0) = _
    rw [hl]
    exact nx_enc v _ (by omega)
  have e1 : rdn l 1 = (enc g ++ (enc i ++ (enc d ++ (enc s ++ txt t))), 0) := congrArg Prod.snd r1
  have r2 : nx (rdn l 1) = (g, enc i ++ (enc d ++ (enc s ++ txt t)), 0) := by rw [e1]; exact nx_enc g _ (by omega)
  have e2 : rdn l 2 = (enc i ++ (enc d ++ (enc s ++ txt t)), 0) := congrArg Prod.snd r2
  have r3 : nx (rdn l 2) = (i, enc d ++ (enc s ++ txt t), 0) := by rw [e2]; exact nx_enc i _ (by omega)
  have e3 : rdn l 3 = (enc d ++ (enc s ++ txt t), 0) := congrArg Prod.snd r3
  have r4 : nx (rdn l 3) = (d, enc s ++ txt t, 0) := by rw [e3]; exact nx_enc d _ (by omega)
  have e4 : rdn l 4 = (enc s ++ txt t, 0) := congrArg Prod.snd r4
  have r5 : nx (rdn l 4) = (s, txt t, 0) := by rw [e4]; exact nx_enc s _ (by omega)
  have e5 : rdn l 5 = (txt t, 0) := congrArg Prod.snd r5
  have et : tx (rdn l 5) = (t, [], 0) := by
    rw [e5]
    unfold tx
    simp only [if_true]
    have := tkT_txt t [] (by omega)
    rw [List.append_nil] at this
    exact this
  have hcut : cutp (secT v g i d s t) = (l, true) := by
    rw [hu]
    unfold cutp
    rw [if_pos (by rfl)]
    rfl
  have hdd : (B (secT v g i d s t)).data.toList = secT v g i d s t := rfl
  unfold secR
  rw [openL_seal]
  simp only [ne_eq, not_true_eq_false, if_false, hdd, hcut, et]
  have w1 : val l 0 = v := congrArg Prod.fst r1
  have w2 : val l 1 = g := congrArg Prod.fst r2
  have w3 : val l 2 = i := congrArg Prod.fst r3
  have w4 : val l 3 = d := congrArg Prod.fst r4
  have w5 : val l 4 = s := congrArg Prod.fst r5
  rw [w1, w2, w3, w4, w5, if_pos ⟨trivial, rfl, hc⟩]
theorem secR_inv (m : List UInt8) (h : (secR m).2.2.2.2.2.2 = 0) : ∃ (v g i d s : Nat) (t : List UInt8), secR m = ((v : Int), (g : Int), (i : Int), (d : Int), (s : Int), B t, 0) ∧ m = sealL (secT v g i d s t) ∧ chk v g i d s t.length = 0 := by
  rcases openL_cases m with ⟨_, ho⟩ | ⟨_, _, ho⟩ | ⟨u, hm, ho⟩
  · unfold secR at h
    rw [ho, if_pos (by decide)] at h
    exact absurd h (by decide)
  · unfold secR at h
    rw [ho, if_pos (by decide)] at h
    exact absurd h (by decide)
  · have hd : (B u).data.toList = u := rfl
    unfold secR at h ⊢
    rw [ho] at h ⊢
    simp only [ne_eq, not_true_eq_false, if_false, hd] at h ⊢
    split at h
    · rename_i hh
      rw [if_pos hh]
      refine ⟨_, _, _, _, _, _, rfl, ?_, hh.2.2⟩
      rw [← five_inv _ hh.2.1, hm]
      have h1 := hh.1
      congr 1
      unfold cutp at h1 ⊢
      split at h1
      · rename_i h2
        rw [if_pos h2, ← h2, List.take_append_drop]
      · cases h1
    · exact absurd h (by decide)
theorem secT_len (v g i d s : Int) (t : List UInt8) (h : Rng v g i d s) (ht : t.length ≤ 64) : (secT v.toNat g.toNat i.toNat d.toNat s.toNat t).length ≤ 114 := by
  unfold secT
  rw [← encK5, List.length_append, List.length_append]
  have h1 := encK_len _ (five_lt h) 5
  have h2 := txt_len t ht
  simp only [List.length_cons, List.length_nil]
  omega
theorem secR_backI {v g i d s : Int} {t : ByteArray} (hc : chk v g i d s t.size = 0) : secR (sealL (secT v.toNat g.toNat i.toNat d.toNat s.toNat t.data.toList)) = (v, g, i, d, s, t, 0) := by
  obtain ⟨⟨h0, _, h1, _, h2, _, h3, _, h4, _⟩, _⟩ := chk_ok hc
  have := secR_back v.toNat g.toNat i.toNat d.toNat s.toNat t.data.toList (by
    rw [Int.toNat_of_nonneg h0, Int.toNat_of_nonneg h1, Int.toNat_of_nonneg h2, Int.toNat_of_nonneg h3, Int.toNat_of_nonneg h4, size_data]; exact hc)
  rw [Int.toNat_of_nonneg h0, Int.toNat_of_nonneg h1, Int.toNat_of_nonneg h2, Int.toNat_of_nonneg h3, Int.toNat_of_nonneg h4, B_eta] at this
  exact this
end Go.Proofs.YtdcfonmjbelgbaaGreatDoor
end
section
namespace Go.Proofs.YtdcfonmjbelgbaaGreatDoor.Q
open Go.RowKit Go.Proofs.YtdcfonmjbelgbaaGreatDoorW.PrintWords
theorem eqA59 (d : Nat) (w : World) (x0 y0 : Int) (x1 y1 : Int) :
    (Op.equalIn (d + 2) 59 (.agg #[.int .i64 x0, .int .i64 x1]) (.agg #[.int .i64 y0, .int .i64 y1])).run Tryz.prog w = .ok (x0 == y0 && (x1 == y1)) w := by
  refine eqA_of Tryz.underlying59 (by kernel_rfl) ?_
  refine eqf_cons (by rfl) (by go_simp; rfl) (by go_simp; rfl) (by go_simp) ?_
  exact eqf_last (by rfl) (by go_simp; rfl) (by go_simp; rfl) (by go_simp)
theorem eqA61 (d : Nat) (w : World) (x0 y0 : Int) (x1 y1 : Int) (x2 y2 : Int) (x3 y3 : Int) (x4 y4 : Int) (x5 y5 : ByteArray) :
    (Op.equalIn (d + 3) 61 (.agg #[.int .i64 x0, .int .i64 x1, .int .i64 x2, .int .i64 x3, .int .i64 x4, .string x5]) (.agg #[.int .i64 y0, .int .i64 y1, .int .i64 y2, .int .i64 y3, .int .i64 y4, .string y5])).run Tryz.prog w = .ok (x0 == y0 && (x1 == y1 && (x2 == y2 && ((x3 == y3 && (x4 == y4)) && (x5.toList == y5.toList))))) w := by
  refine eqA_of Tryz.underlying61 (by kernel_rfl) ?_
  refine eqf_cons (by rfl) (by go_simp; rfl) (by go_simp; rfl) (by go_simp) ?_
  refine eqf_cons (by rfl) (by go_simp; rfl) (by go_simp; rfl) (by go_simp) ?_
  refine eqf_cons (by rfl) (by go_simp; rfl) (by go_simp; rfl) (by go_simp) ?_
  refine eqf_cons (by rfl) (by go_simp) (by go_simp) (eqA59 (d + 0) w _ _ _ _) ?_
  exact eqf_last (by rfl) (by go_simp; rfl) (by go_simp; rfl) (by go_simp)
end Go.Proofs.YtdcfonmjbelgbaaGreatDoor.Q
end
section
namespace Go.Proofs.YtdcfonmjbelgbaaGreatDoor
open Go.RowKit Q Go.Proofs.YtdcfonmjbelgbaaGreatDoorW.PrintWords Go.Proofs.YtdcfonmjbelgbaaGreatDoorW.PrintLast Go.Proofs.YtdcfonmjbelgbaaGreatDoorW.PrintMore
attribute [local go_sem high] eqA61
def mineP (r : Int × Int × Int × Int × Int × ByteArray × Int) (V G : Int) (l : List S59) (ix : Int) : ByteArray × Int :=
  if r.2.2.2.2.2.2 = 0 then (if (!(r.1 == V) || (!(r.2.1 == G) || (!(r.2.2.1 == ix) || ((!(r.2.2.2.1 == (rd_T59 l ix).f0) || (!(r.2.2.2.2.1 == (rd_T59 l ix).f1))))))) = true then (⟨#[]⟩, 4) else (r.2.2.2.2.2.1, 0)) else (⟨#[]⟩, r.2.2.2.2.2.2)
theorem ld_hdr (g : Nat) (a b c d e : Int) (t : ByteArray) (w : World) (h : Blk w g #[.int .i64 a, .int .i64 b, .int .i64 c, .int .i64 d, .int .i64 e, .string t] 61) : (Instr.loadAt 61 (.pointer (some ⟨g, 0, none⟩))).run Tryz.prog w = .ok (.agg #[.int .i64 a, .int .i64 b, .int .i64 c, .int .i64 d, .int .i64 e, .string t]) w := by
  have hu30 := Tryz.underlying61
  have hu23 := Tryz.underlying59
  obtain ⟨c0, c1, c2, c3, c4, c5⟩ := six h
  go_simp
theorem ld_loc (ad : Addr) (a b : Int) (w : World) (h0 : w.cell? ad = some (.int .i64 a)) (h1 : w.cell? ⟨ad.block, ad.off + 1, none⟩ = some (.int .i64 b)) : (Instr.loadAt 59 (.pointer (some ad))).run Tryz.prog w = .ok (.agg #[.int .i64 a, .int .i64 b]) w := by
  have hu23 := Tryz.underlying59
  go_simp
theorem ld_locs (ad : Addr) (v : Value) (w : World) (h : w.cell? ad = some v) : (Instr.loadAt 22 (.pointer (some ad))).run Tryz.prog w = .ok v w := by
  go_simp
set_option maxRecDepth 100000 in
set_option maxHeartbeats 1000000 in
theorem mine_bad (s : ByteArray) (V G D : Int) (A : Option Addr) (n c : Nat) (ix : Int) (w : World) (h : (n : Int) ≠ 9 ∨ ((n : Int) = 9 ∧ (ix < 0 ∨ 9 ≤ ix))) : Calls Tryz.prog 54 #[.string s, .agg #[.int .i64 V, .int .i64 G, .int .i64 D, .slice A n c], .int .i64 ix] w fun e w' => e = .returned (.tuple #[.string ⟨#[]⟩, .int .i64 1]) ∧ Below w.heap.size w w' := by
  have hu36 := Tryz.underlying24
  have HB : Aside0 (Below w.heap.size w (w.alloc (.cells #[.int .i64 V, .int .i64 G, .int .i64 D, .slice A n c] 24))) := ⟨(Below.refl _ _).alloc (Nat.le_refl _) _⟩
  rcases h with h | ⟨h, h2⟩
  · have t1 : ((n : Int) == 9) = false := by simpa using h
    have t2 : ((n : Int) != 9) = true := by simp [bne, t1]
    clear h
    go_enter Tryz.func54, Tryz.ntmps54
    go_wp2_with fail
    go_ret2
    exact ⟨rfl, HB.out⟩
  · have t1 : ((n : Int) == 9) = true := by simpa using h
    have t2 : ((n : Int) != 9) = false := by simp [bne, t1]
    clear h
    by_cases h3 : ix < 0
    · clear h2
      go_enter Tryz.func54, Tryz.ntmps54
      go_wp2_with fail
      go_ret2
      exact ⟨rfl, HB.out⟩
    · have h4 : 9 ≤ ix := by omega
      clear h2
      go_enter Tryz.func54, Tryz.ntmps54
      go_wp2_with fail
      go_ret2
      exact ⟨rfl, HB.out⟩
set_option maxRecDepth 100000 in
set_option maxHeartbeats 2000000 in
theorem mine_good (m : List UInt8) (hm : m.length ≤ 140737488355328) (V G D : Int) (A : Option Addr) (n c : Nat) (l : List S59) (ix : Int) (w : World) (hr : Kd.C k59 w A n l) (hn : (n : Int) = 9) (h0 : 0 ≤ ix) (h9 : ix < 9) : Calls Tryz.prog 54 #[.string (B m), .agg #[.int .i64 V, .int .i64 G, .int .i64 D, .slice A n c], .int .i64 ix] w fun e w' => e = .returned (.tuple #[.string (mineP (secR m) V G l ix).1, .int .i64 (mineP (secR m) V G l ix).2]) ∧ Below w.heap.size w w' := by
  have hu36 := Tryz.underlying24
  have hu30 := Tryz.underlying61
  have hu23 := Tryz.underlying59
  have HB : Aside0 (Below w.heap.size w (w.alloc (.cells #[.int .i64 V, .int .i64 G, .int .i64 D, .slice A n c] 24))) := ⟨(Below.refl _ _).alloc (Nat.le_refl _) _⟩
  have HV : Aside0 (Blk (w.alloc (.cells #[.int .i64 V, .int .i64 G, .int .i64 D, .slice A n c] 24)) w.heap.size #[.int .i64 V, .int .i64 G, .int .i64 D, .slice A n c] 24) := ⟨Blk.new w _ _⟩
  obtain ⟨ad, hA, k0, k1⟩ := at_T59 hr ix h0 (by omega)
  have K0 := Lib.hid k0
  have K1 := Lib.hid k1
  have t1 : ((n : Int) == 9) = true := by simpa using hn
  have t2 : ((n : Int) != 9) = false := by simp [bne, t1]
  have hlt : ix < (n : Int) := by omega
  clear k0 k1 hr
  subst hA
  obtain ⟨⟨r1, r2, r3, r4, r5, r6, r7⟩, hR⟩ : ∃ r, secR m = r := ⟨_, rfl⟩
  rw [hR]
  have HRR := Lib.hid hR
  clear hR
  by_cases he : r7 = 0
  · subst he
    obtain ⟨q, hq⟩ : ∃ q : Bool, (!(r1 == V) || (!(r2 == G) || (!(r3 == ix) || ((!(r4 == (rd_T59 l ix).f0) || (!(r5 == (rd_T59 l ix).f1))))))) = q := ⟨_, rfl⟩
    have HM : mineP (r1, r2, r3, r4, r5, r6, 0) V G l ix = if q = true then (⟨#[]⟩, 4) else (r6, 0) := by subst hq; exact if_pos rfl
    rw [HM]
    clear HM
    go_enter Tryz.func54, Tryz.ntmps54
    go_wp2_with fail
    refine (read_calls m hm _).mono ?_
    rintro e w1 ⟨rfl, b1⟩
    replace HV := Aside0.mk (HV.out.keep b1)
    replace HB := Aside0.mk (below2 HB.out HB.out.size b1)
    clear b1
    rw [HRR.out]
    clear HRR
    have HB := Aside0.mk (below_alloc HB.out (.cells #[.int .i64 r1, .int .i64 r2, .int .i64 r3, .int .i64 r4, .int .i64 r5, .string r6] 61))
    have HV := Aside0.mk (HV.out.alloc (.cells #[.int .i64 r1, .int .i64 r2, .int .i64 r3, .int .i64 r4, .int .i64 r5, .string r6] 61))
    have HH := Aside0.mk (Blk.new w1 #[.int .i64 r1, .int .i64 r2, .int .i64 r3, .int .i64 r4, .int .i64 r5, .string r6] 61)
    go_wp2_with fail
    generalize w1.alloc (.cells #[.int .i64 r1, .int .i64 r2, .int .i64 r3, .int .i64 r4, .int .i64 r5, .string r6] 61) = wz at *
    generalize w1.heap.size = gh at *
    obtain ⟨d0, d1, d2, d3, d4, d5⟩ := six HH.out
    have v0 := HV.out.cell (i := 0) (v := .int .i64 V) rfl
    have v1 := HV.out.cell (i := 1) (v := .int .i64 G) rfl
    have v3 := HV.out.cell (i := 3) (v := .slice (some ad) n c) rfl
    have hV := HV.out.lt
    have hH := HH.out.lt
    have hK : (ad.add (ix.toNat * 2)).block < w.heap.size := lt_cell K0.out
    have hK1 := lt_cell K1.out
    refine region_below_tail 14 (by kernel_rfl) (by kernel_rfl) ?_
    simp only [List.take_succ_cons, List.take_zero, List.drop_succ_cons, List.drop_zero]
    repeat (first | go_big_quiet_step (fail) | (refine BigFrame.wpQuiet_want (by rfl) (fun K hK => ?_); go_big_quiet_op; refine ⟨_, fun _ _ => rfl, hK _ ?_⟩; clear hK K) | (refine q_ld 3 _ _ _ _ rfl rfl rfl rfl (ld_int _ _) (by assumption) (by assumption) ?_; simp only [Act.put, List.setIfInBounds_toArray, List.set_cons_zero, List.set_cons_succ]) | (refine q_ld 9 _ _ _ _ rfl rfl rfl rfl (ld_str _ _) (by assumption) (by assumption) ?_; simp only [Act.put, List.setIfInBounds_toArray, List.set_cons_zero, List.set_cons_succ]) | (refine q_ld 22 _ _ _ _ rfl rfl rfl rfl (ld_locs _ _) (by assumption) (by assumption) ?_; simp only [Act.put, List.setIfInBounds_toArray, List.set_cons_zero, List.set_cons_succ]) | (refine q_rd 61 _ _ ⟨gh, 0, none⟩ (.agg #[.int .i64 r1, .int .i64 r2, .int .i64 r3, .int .i64 r4, .int .i64 r5, .string r6]) rfl rfl rfl rfl (fun w' hw' => ld_hdr _ _ _ _ _ _ _ w' (HH.out.keep hw')) ?_; simp only [Act.put, List.setIfInBounds_toArray, List.set_cons_zero, List.set_cons_succ]) | (refine q_rd 59 _ _ (ad.add (ix.toNat * 2)) (.agg #[.int .i64 (rd_T59 l ix).f0, .int .i64 (rd_T59 l ix).f1]) rfl rfl rfl rfl (fun w' hw' => ld_loc _ _ _ w' ((hw'.cell (Nat.lt_of_lt_of_le hK HB.out.size)).trans ((HB.out.cell hK).trans K0.out)) ((hw'.cell (Nat.lt_of_lt_of_le hK1 HB.out.size)).trans ((HB.out.cell hK1).trans K1.out))) ?_; simp only [Act.put, List.setIfInBounds_toArray, List.set_cons_zero, List.set_cons_succ]))
    refine wpQuiet_nil ?_
    intro wn hw'
    have hb := hw'
    replace HB := Aside0.mk (below2 HB.out HB.out.size hb)
    replace HH := Aside0.mk (HH.out.keep hw')
    clear hb hw' d0 d1 d2 d3 d4 d5 v0 v1 v3 hV hH hK hK1
    obtain ⟨d0, d1, d2, d3, d4, d5⟩ := six HH.out
    cases q
    · go_wp2_with fail
      go_ret2
      exact ⟨rfl, HB.out⟩
    · go_wp2_with fail
      go_ret2
      exact ⟨rfl, HB.out⟩
  · have t3 : (r7 == 0) = false := by simpa using he
    have t4 : (r7 != 0) = true := by simp [bne, t3]
    have HM : Hid (mineP (r1, r2, r3, r4, r5, r6, r7) V G l ix = (⟨#[]⟩, r7)) := Lib.hid (if_neg he)
    rw [HM.out]
    clear he HM
    go_enter Tryz.func54, Tryz.ntmps54
    go_wp2_with fail
    refine (read_calls m hm _).mono ?_
    rintro e w1 ⟨rfl, b1⟩
    replace HV := Aside0.mk (HV.out.keep b1)
    replace HB := Aside0.mk (below2 HB.out HB.out.size b1)
    clear b1
    rw [HRR.out]
    clear HRR
    have HB := Aside0.mk (below_alloc HB.out (.cells #[.int .i64 r1, .int .i64 r2, .int .i64 r3, .int .i64 r4, .int .i64 r5, .string r6] 61))
    go_wp2_with fail
    go_ret2
    exact ⟨rfl, HB.out⟩
def sector_Mine.f (a0 : ByteArray) (a1_0 a1_1 _a1_2 : Int) (l1_3 : List S59) (a2 : Int) : Option (ByteArray × Int) :=
  if (l1_3.length : Int) = 9 ∧ 0 ≤ a2 ∧ a2 < 9 then (if a0.size ≤ 140737488355328 then some (mineP (secR a0.data.toList) a1_0 a1_1 l1_3 a2) else none) else some (⟨#[]⟩, 1)
theorem sector_Mine.calls (a0 : ByteArray) (a1_0 : Int) (a1_1 : Int) (a1_2 : Int) (A1_3 : Option Addr) (c1_3 : Nat) (l1_3 : List S59) (a2 : Int) (r1 : ByteArray) (r2 : Int) (w : World) (hr1_3 : Kd.C k59 w A1_3 l1_3.length l1_3) (_hc1_3 : l1_3.length ≤ c1_3) (h : sector_Mine.f a0 a1_0 a1_1 a1_2 l1_3 a2 = some (r1, r2)) :
    Calls Tryz.prog 54 #[.string a0, .agg #[.int .i64 a1_0, .int .i64 a1_1, .int .i64 a1_2, .slice A1_3 l1_3.length c1_3], .int .i64 a2] w fun e w' => e = .returned (.tuple #[.string r1, .int .i64 r2]) ∧ Below w.heap.size w w' := by
  unfold sector_Mine.f at h
  split at h
  · rename_i hg
    split at h
    · rename_i hs
      have e := Option.some.inj h
      have := mine_good a0.data.toList (by rw [size_data]; exact hs) a1_0 a1_1 a1_2 A1_3 l1_3.length c1_3 l1_3 a2 w hr1_3 hg.1 hg.2.1 hg.2.2
      rw [e, B_eta] at this
      exact this
    · cases h
  · rename_i hg
    have e := Option.some.inj h
    simp only [Prod.mk.injEq] at e
    obtain ⟨rfl, rfl⟩ := e
    exact mine_bad a0 a1_0 a1_1 a1_2 A1_3 l1_3.length c1_3 a2 w (by omega)
end Go.Proofs.YtdcfonmjbelgbaaGreatDoor
namespace Go.Proofs.YtdcfonmjbelgbaaGreatDoor
open Go.RowKit Q Go.Proofs.YtdcfonmjbelgbaaGreatDoorW.PrintWords Go.Proofs.YtdcfonmjbelgbaaGreatDoorW.PrintLast Go.Proofs.YtdcfonmjbelgbaaGreatDoorW.PrintMore
attribute [local go_sem high] eqA59
end Go.Proofs.YtdcfonmjbelgbaaGreatDoor
end
section
namespace Go.Proofs.YtdcfonmjbelgbaaGreatDoor
open Go.RowKit Go.Maps Q Go.Proofs.YtdcfonmjbelgbaaGreatDoorW.PrintWords Go.Proofs.YtdcfonmjbelgbaaGreatDoorW.PrintLast Go.Proofs.YtdcfonmjbelgbaaGreatDoorW.PrintMore
def inB (n m : Int) : Bool := decide (0 ≤ n) && decide (n ≤ m)
theorem in_calls (n m : Int) (w : World) : Calls Tryz.prog 39 #[.int .i64 n, .int .i64 m] w fun e w' => e = .returned (.bool (inB n m)) ∧ Below w.heap.size w w' := by
  have h : record_in.f n m = some (inB n m) := by
    unfold record_in.f inB
    by_cases h : n ≥ 0
    · rw [if_pos h, decide_eq_true (p := 0 ≤ n) h]; rfl
    · rw [if_neg h, decide_eq_false (p := 0 ≤ n) h]; rfl
  refine (record_in.calls n m _ w h).mono ?_
  rintro e w' ⟨rfl, hd⟩
  exact ⟨rfl, hd.below⟩
def locOk (x : S59) : Bool := inB x.f0 11 && inB x.f1 47
def keysL (l : List S59) (k : Nat) : List Lit := (l.take k).map fun x => .int .i64 x.f0
def Sv (l : List S59) (k : Nat) : DataW Unit := setOf (.agg []) (keysL l k)
theorem keysL_succ (l : List S59) (k : Nat) (hk : k < l.length) : keysL l (k + 1) = keysL l k ++ [.int .i64 (rd_T59 l k).f0] := by
  unfold keysL rd_T59
  rw [List.take_add_one, List.map_append]
  simp [List.getD, List.getElem?_eq_getElem hk]
theorem Sv_succ (l : List S59) (k : Nat) (hk : k < l.length) : Sv l (k + 1) = (Sv l k).put (.int .i64 (rd_T59 l k).f0) (.agg []) := by
  unfold Sv
  rw [keysL_succ l k hk, setOf_snoc]
theorem Sv_zero (l : List S59) : Sv l 0 = .map [] := by simp [Sv, keysL, setOf]
def volP (id gen len : Int) (l : List S59) : Bool := l.all locOk && (inB id 1099511627776 && (inB gen 1099511627776 && (inB len 384 && (decide ((l.length : Int) = 9) && decide ((Maps.size (Sv l l.length) : Int) = 9)))))
theorem own_below {P : Program} {H : Type} {k : TypeId} {R : Value → Option (DataW H × List MemPlace)} {b n : Nat} {D : DataW H} {w w' : World} (h : w.ownsMap P k R b n D) (hb : Below w.heap.size w w') : w'.ownsMap P k R b n D := by
  have hlt := h.lt
  obtain ⟨es, clock, h0, F⟩ := h
  exact ⟨es, clock, (hb.block _ hlt).trans h0, F⟩
theorem lawI : Keyed Tryz.prog 3 := int_keyed Tryz.underlying3
theorem all_step (l : List S59) (k : Nat) (hk : k < l.length) : (l.take (k + 1)).all locOk = ((l.take k).all locOk && locOk (rd_T59 l k)) := by
  have : l.take (k + 1) = l.take k ++ [rd_T59 l k] := by
    unfold rd_T59
    rw [List.take_add_one]
    simp [List.getD, List.getElem?_eq_getElem hk]
  rw [this, List.all_append]
  simp
theorem all_bad (l : List S59) (k : Nat) (hk : k < l.length) (h : locOk (rd_T59 l k) = false) : l.all locOk = false := by
  have h1 := all_step l k hk
  rw [h, Bool.and_false] at h1
  rw [← List.take_append_drop (k + 1) l, List.all_append, h1, Bool.false_and]
set_option maxHeartbeats 2000000 in
set_option maxRecDepth 100000 in
theorem vol_calls (id gen len : Int) (A : Option Addr) (n c : Nat) (l : List S59) (w : World) (hr : Kd.C k59 w A n l) (hn : n = l.length) (hb : l.length ≤ 1000) : Calls Tryz.prog 25 #[.agg #[.int .i64 id, .int .i64 gen, .int .i64 len, .slice A n c]] w fun e w' => e = .returned (.bool (volP id gen len l)) ∧ Below w.heap.size w w' := by
  subst hn
  have hmm := @run_makeMap Tryz.prog
  have hu := Tryz.underlying24
  have hu23 := Tryz.underlying59
  have hs : ((w.alloc (.cells #[.int .i64 id, .int .i64 gen, .int .i64 len, .slice A l.length c] 24)).alloc (.map #[] 0)).heap.size = w.heap.size + 1 + 1 := by rw [World.size_alloc, World.size_alloc]
  have HV : Aside0 (Blk ((w.alloc (.cells #[.int .i64 id, .int .i64 gen, .int .i64 len, .slice A l.length c] 24)).alloc (.map #[] 0)) w.heap.size #[.int .i64 id, .int .i64 gen, .int .i64 len, .slice A l.length c] 24) := ⟨(Blk.new w _ _).alloc _⟩
  have HB : Aside0 (Below w.heap.size w ((w.alloc (.cells #[.int .i64 id, .int .i64 gen, .int .i64 len, .slice A l.length c] 24)).alloc (.map #[] 0))) := ⟨below_alloc (below_alloc (Below.refl _ _) _) _⟩
  have HO : Aside0 (((w.alloc (.cells #[.int .i64 id, .int .i64 gen, .int .i64 len, .slice A l.length c] 24)).alloc (.map #[] 0)).ownsMap Tryz.prog 3 (unitElem (H := Unit)) (w.heap.size + 1) 0 (Sv l 0)) := ⟨by rw [Sv_zero]; have := World.ownsMap_made (w.alloc (.cells #[.int .i64 id, .int .i64 gen, .int .i64 len, .slice A l.length c] 24)) Tryz.prog 3 (unitElem (H := Unit)); rwa [World.size_alloc] at this⟩
  have HSZ := Lib.hid hs
  clear hs
  go_enter Tryz.func25, Tryz.ntmps25
  go_wp2_with fail
  generalize ((w.alloc (.cells #[.int .i64 id, .int .i64 gen, .int .i64 len, .slice A l.length c] 24)).alloc (.map #[] 0)) = W0 at HV HB HO HSZ ⊢
  go_loopw [10] (fun i wr => ∃ k : Nat, k ≤ l.length ∧ i = .int .i64 k ∧ Aside0 ((l.take k).all locOk = true) ∧ Aside0 (wr.ownsMap Tryz.prog 3 (unitElem (H := Unit)) (w.heap.size + 1) k (Sv l k)) ∧ Aside0 (Blk wr w.heap.size #[.int .i64 id, .int .i64 gen, .int .i64 len, .slice A l.length c] 24) ∧ Aside0 (Below w.heap.size w wr) ∧ Aside0 (w.heap.size + 2 ≤ wr.heap.size)) (fun i _ => l.length - (intOf i).toNat)
  case atStart => exact ⟨0, Nat.zero_le _, rfl, ⟨rfl⟩, HO, HV, HB, ⟨by rw [HSZ.out]; omega⟩⟩
  case round =>
    clear HO HV HB
    obtain ⟨k, hk, rfl, HA, HO, HV, HB, HZ⟩ := hrel
    by_cases hlt : k < l.length
    · obtain ⟨ad, hA, k0, k1⟩ := at_T59 hr k (by omega) (by omega)
      rw [Int.toNat_natCast] at k0 k1
      have hK : (ad.add (k * 2)).block < w.heap.size := lt_cell k0
      have e0 := (HB.out.cell hK).trans k0
      have e1 := (HB.out.cell (lt_cell k1)).trans k1
      clear k0 k1
      subst hA
      have hkl : k < l.length := by omega
      have HX := Aside0.mk (Blk.new wr #[.int .i64 (rd_T59 l k).f0, .int .i64 (rd_T59 l k).f1] 59)
      replace HV := Aside0.mk (HV.out.alloc (.cells #[.int .i64 (rd_T59 l k).f0, .int .i64 (rd_T59 l k).f1] 59))
      replace HB := Aside0.mk (below_alloc HB.out (.cells #[.int .i64 (rd_T59 l k).f0, .int .i64 (rd_T59 l k).f1] 59))
      replace HO := Aside0.mk (HO.out.alloc (.cells #[.int .i64 (rd_T59 l k).f0, .int .i64 (rd_T59 l k).f1] 59))
      cases hb0 : inB (rd_T59 l k).f0 11 with
      | false =>
        have HF := Lib.hid (show volP id gen len l = false by unfold volP; rw [all_bad l k hkl (by unfold locOk; rw [hb0]; rfl)]; rfl)
        go_wp2_with fail
        refine (in_calls _ _ _).mono ?_
        rintro e w1 ⟨rfl, b1⟩
        rw [hb0]
        replace HB := Aside0.mk (below2 HB.out HB.out.size b1)
        replace HV := Aside0.mk (HV.out.keep b1)
        replace HO := Aside0.mk (own_below HO.out b1)
        replace HZ := Aside0.mk (Nat.le_trans HZ.out (Nat.le_trans (by rw [World.size_alloc]; omega) b1.size))
        replace HX := Aside0.mk (HX.out.keep b1)
        clear b1
        go_wp2_with fail
        go_ret
        exact ⟨by rw [HF.out]; rfl, HB.out⟩
      | true =>
        cases hb1 : inB (rd_T59 l k).f1 47 with
        | false =>
          have HF := Lib.hid (show volP id gen len l = false by unfold volP; rw [all_bad l k hkl (by unfold locOk; rw [hb0, hb1]; rfl)]; rfl)
          go_wp2_with fail
          refine (in_calls _ _ _).mono ?_
          rintro e w1 ⟨rfl, b1⟩
          rw [hb0]
          replace HB := Aside0.mk (below2 HB.out HB.out.size b1)
          replace HV := Aside0.mk (HV.out.keep b1)
          replace HO := Aside0.mk (own_below HO.out b1)
          replace HZ := Aside0.mk (Nat.le_trans HZ.out (Nat.le_trans (by rw [World.size_alloc]; omega) b1.size))
          replace HX := Aside0.mk (HX.out.keep b1)
          clear b1
          have d0 := HX.out.cell (i := 0) (v := .int .i64 (rd_T59 l k).f0) rfl
          have d1 := HX.out.cell (i := 1) (v := .int .i64 (rd_T59 l k).f1) rfl
          go_wp2_with fail
          clear d0 d1
          refine (in_calls _ _ _).mono ?_
          rintro e w2 ⟨rfl, b1⟩
          rw [hb1]
          replace HB := Aside0.mk (below2 HB.out HB.out.size b1)
          replace HV := Aside0.mk (HV.out.keep b1)
          replace HO := Aside0.mk (own_below HO.out b1)
          replace HZ := Aside0.mk (Nat.le_trans HZ.out b1.size)
          replace HX := Aside0.mk (HX.out.keep b1)
          clear b1
          go_wp2_with fail
          go_ret
          exact ⟨by rw [HF.out]; rfl, HB.out⟩
        | true =>
          have HA2 := Aside0.mk (show (l.take (k + 1)).all locOk = true by rw [all_step l k hkl, HA.out]; unfold locOk; rw [hb0, hb1]; rfl)
          have hkey := Aside0.mk (show keyOf Tryz.prog 3 (.int .i64 (rd_T59 l k).f0) = some (.int .i64 (rd_T59 l k).f0) from keyOf_int_mk Tryz.underlying3 (by unfold inB at hb0; rw [Bool.and_eq_true, decide_eq_true_eq, decide_eq_true_eq] at hb0; simp [Lit.wf, IntKind.min, IntKind.max, IntKind.signed, IntKind.bits]; omega))
          go_wp2_with fail
          refine (in_calls _ _ _).mono ?_
          rintro e w1 ⟨rfl, b1⟩
          rw [hb0]
          replace HB := Aside0.mk (below2 HB.out HB.out.size b1)
          replace HV := Aside0.mk (HV.out.keep b1)
          replace HO := Aside0.mk (own_below HO.out b1)
          replace HZ := Aside0.mk (Nat.le_trans HZ.out (Nat.le_trans (by rw [World.size_alloc]; omega) b1.size))
          replace HX := Aside0.mk (HX.out.keep b1)
          clear b1
          have d0 := HX.out.cell (i := 0) (v := .int .i64 (rd_T59 l k).f0) rfl
          have d1 := HX.out.cell (i := 1) (v := .int .i64 (rd_T59 l k).f1) rfl
          go_wp2_with fail
          clear d0 d1
          refine (in_calls _ _ _).mono ?_
          rintro e w2 ⟨rfl, b1⟩
          rw [hb1]
          replace HB := Aside0.mk (below2 HB.out HB.out.size b1)
          replace HV := Aside0.mk (HV.out.keep b1)
          replace HO := Aside0.mk (own_below HO.out b1)
          replace HZ := Aside0.mk (Nat.le_trans HZ.out b1.size)
          replace HX := Aside0.mk (HX.out.keep b1)
          clear b1
          have d0 := HX.out.cell (i := 0) (v := .int .i64 (rd_T59 l k).f0) rfl
          have hkm := Aside0.mk (show k < maxLen by unfold maxLen; omega)
          go_wp2_with (at_mapUpdate; refine wpList_mapUpdate_own _ rfl _ _ _ 77 rfl 3 79 lawI Tryz.underlying77 (unitElem (H := Unit)) (w.heap.size + 1) k _ rfl HO.out hkm.out _ _ _ rfl rfl hkey.out _ [] unitElem_mk ?_; intro w9 hown1 hgrow1)
          go_roundw
          case rel =>
            refine ⟨k + 1, by omega, by go_num, HA2, ⟨by rw [Sv_succ l k hkl]; exact hown1⟩, ⟨blk_grown HV.out hgrow1 (by simp)⟩, ⟨HB.out.grown hgrow1 HB.out.size (fun j hj => by cases hj; omega)⟩, ⟨Nat.le_trans HZ.out hgrow1.size⟩⟩
          case measure => simp [intOf]; omega
    · obtain rfl : k = l.length := by omega
      have hall : l.all locOk = true := by rw [← HA.out, List.take_of_length_le (Nat.le_refl _)]
      have HF := Lib.hid (show volP id gen len l = _ by unfold volP; rw [hall])
      clear HA hall
      have HLT := Lib.hid hlt
      have v0 := HV.out.cell (i := 0) (v := .int .i64 id) rfl
      go_wp2_with fail
      cases hc0 : inB id 1099511627776 with
      | false =>
        clear v0
        refine (in_calls _ _ _).mono ?_
        rintro e w3 ⟨rfl, b1⟩
        rw [hc0]
        replace HB := Aside0.mk (below2 HB.out HB.out.size b1)
        replace HV := Aside0.mk (HV.out.keep b1)
        replace HO := Aside0.mk (own_below HO.out b1)
        clear b1
        go_wp2_with fail
        go_ret
        exact ⟨by rw [HF.out, hc0]; rfl, HB.out⟩
      | true =>
        clear v0
        refine (in_calls _ _ _).mono ?_
        rintro e w3 ⟨rfl, b1⟩
        rw [hc0]
        replace HB := Aside0.mk (below2 HB.out HB.out.size b1)
        replace HV := Aside0.mk (HV.out.keep b1)
        replace HO := Aside0.mk (own_below HO.out b1)
        clear b1
        have v0 := HV.out.cell (i := 1) (v := .int .i64 gen) rfl
        go_wp2_with fail
        cases hc1 : inB gen 1099511627776 with
        | false =>
          clear v0
          refine (in_calls _ _ _).mono ?_
          rintro e w4 ⟨rfl, b1⟩
          rw [hc1]
          replace HB := Aside0.mk (below2 HB.out HB.out.size b1)
          replace HV := Aside0.mk (HV.out.keep b1)
          replace HO := Aside0.mk (own_below HO.out b1)
          clear b1
          go_wp2_with fail
          go_ret
          exact ⟨by rw [HF.out, hc0, hc1]; rfl, HB.out⟩
        | true =>
          clear v0
          refine (in_calls _ _ _).mono ?_
          rintro e w4 ⟨rfl, b1⟩
          rw [hc1]
          replace HB := Aside0.mk (below2 HB.out HB.out.size b1)
          replace HV := Aside0.mk (HV.out.keep b1)
          replace HO := Aside0.mk (own_below HO.out b1)
          clear b1
          have v0 := HV.out.cell (i := 2) (v := .int .i64 len) rfl
          go_wp2_with fail
          cases hc2 : inB len 384 with
          | false =>
            clear v0
            refine (in_calls _ _ _).mono ?_
            rintro e w5 ⟨rfl, b1⟩
            rw [hc2]
            replace HB := Aside0.mk (below2 HB.out HB.out.size b1)
            replace HV := Aside0.mk (HV.out.keep b1)
            replace HO := Aside0.mk (own_below HO.out b1)
            clear b1
            go_wp2_with fail
            go_ret
            exact ⟨by rw [HF.out, hc0, hc1, hc2]; rfl, HB.out⟩
          | true =>
            clear v0
            refine (in_calls _ _ _).mono ?_
            rintro e w5 ⟨rfl, b1⟩
            rw [hc2]
            replace HB := Aside0.mk (below2 HB.out HB.out.size b1)
            replace HV := Aside0.mk (HV.out.keep b1)
            replace HO := Aside0.mk (own_below HO.out b1)
            clear b1
            have v0 := HV.out.cell (i := 3) (v := .slice A l.length c) rfl
            obtain ⟨m, hm⟩ : ∃ m, Maps.size (Sv l l.length) = m := ⟨_, rfl⟩
            by_cases h9 : (l.length : Int) = 9
            · have f9 : ((l.length : Int) == 9) = true := by simpa using h9
              by_cases h8 : (m : Int) = 9
              · have f8 : ((m : Int) == 9) = true := by simpa using h8
                replace HF := Lib.hid (HF.out.trans (show _ = true by rw [hc0, hc1, hc2, decide_eq_true h9, hm, decide_eq_true h8]; rfl))
                clear h9 h8
                go_wp2_with (at_len; refine gate_guard (by rfl) ?_; refine wpList_len_own _ rfl _ 77 rfl 3 79 Tryz.underlying77 _ (w.heap.size + 1) l.length _ rfl HO.out ?_; rw [hm])
                go_ret
                exact ⟨by rw [HF.out]; rfl, HB.out⟩
              · have f8 : ((m : Int) == 9) = false := by simpa using h8
                replace HF := Lib.hid (HF.out.trans (show _ = false by rw [hc0, hc1, hc2, decide_eq_true h9, hm, decide_eq_false h8]; rfl))
                clear h9 h8
                go_wp2_with (at_len; refine gate_guard (by rfl) ?_; refine wpList_len_own _ rfl _ 77 rfl 3 79 Tryz.underlying77 _ (w.heap.size + 1) l.length _ rfl HO.out ?_; rw [hm])
                go_ret
                exact ⟨by rw [HF.out]; rfl, HB.out⟩
            · have f9 : ((l.length : Int) == 9) = false := by simpa using h9
              replace HF := Lib.hid (HF.out.trans (show _ = false by rw [hc0, hc1, hc2, decide_eq_false h9]; rfl))
              clear h9 hm
              go_wp2_with fail
              go_ret
              exact ⟨by rw [HF.out]; rfl, HB.out⟩
def record_Volume.f (a0_0 a0_1 a0_2 : Int) (l0_3 : List S59) : Option Bool := if l0_3.length ≤ 1000 then some (volP a0_0 a0_1 a0_2 l0_3) else none
theorem record_Volume.calls (a0_0 : Int) (a0_1 : Int) (a0_2 : Int) (A0_3 : Option Addr) (c0_3 : Nat) (l0_3 : List S59) (r : Bool) (w : World) (hr0_3 : Kd.C k59 w A0_3 l0_3.length l0_3) (_hc0_3 : l0_3.length ≤ c0_3) (h : record_Volume.f a0_0 a0_1 a0_2 l0_3 = some r) :
    Calls Tryz.prog 25 #[.agg #[.int .i64 a0_0, .int .i64 a0_1, .int .i64 a0_2, .slice A0_3 l0_3.length c0_3]] w fun e w' => e = .returned (.bool r) ∧ Below w.heap.size w w' := by
  unfold record_Volume.f at h
  split at h
  · rename_i hb
    have := vol_calls a0_0 a0_1 a0_2 A0_3 l0_3.length c0_3 l0_3 w hr0_3 rfl hb
    rw [Option.some.inj h] at this
    exact this
  · cases h
end Go.Proofs.YtdcfonmjbelgbaaGreatDoor
end
section
namespace Go.Proofs.YtdcfonmjbelgbaaGreatDoor
open Go.RowKit Go.Maps Q Go.Proofs.YtdcfonmjbelgbaaGreatDoorW.PrintWords Go.Proofs.YtdcfonmjbelgbaaGreatDoorW.PrintLast
theorem nbt_at (l : List UInt8) (i : Nat) (h : i < l.length) : bt (B l) (i : Int) = ((l[i]).toNat : Int) := by
  rw [bt_B, List.getD, List.getElem?_eq_getElem h]
  rfl
theorem nwrap_k (i : Nat) (h : i ≤ 140737488355328) : wrap64 ((i : Int) + 1) = ((i + 1 : Nat) : Int) := by unfold wrap64; omega
end Go.Proofs.YtdcfonmjbelgbaaGreatDoor
end
section
namespace Go.Proofs.YtdcfonmjbelgbaaGreatDoor
end Go.Proofs.YtdcfonmjbelgbaaGreatDoor
end
section
namespace Go.Proofs.YtdcfonmjbelgbaaGreatDoor
open Go.RowKit
theorem wpIn_range_stops {F : Fence} {n : Nat} {P : Program} {α : Type} {g : Operand} {ps : Array Tmp} {assign body : Code} {Q : Exit → Act → World → Prop} {a : Act} {w : World} (hro : F.round = none) (h1 : 1 ≤ n) {gf : Nat} {lb : Array Value} (hg : a.eval g = .func (.func gf) #[] lb) (hFg : F.fn gf) (eg : ∀ args w, (callFunc gf args).run P w = .ok (.enter gf args) w)
    {encs : α → Array Value} (V : α → World → Prop) (stp : α → Prop) (S Sp : List α → Prop) (N n₀ : Nat) (Bx : World → Prop) (hn₀ : n₀ ≤ w.heap.size) (hps : ∀ x, (encs x).size = ps.size)
    (hseq : ∀ (l : Nat) (J Jx : List α → World → Prop) (W : World), Below w.heap.size w W → (∀ s A B, J s A → A.grownBy B none → J s B) → (∀ s A B, Jx s A → A.grownBy B none → Jx s B) → (∀ s A, J s A → Bx A) →
      (∀ pre x W1, J pre W1 → V x W1 → pre.length < N → YieldAt F (n - 1 - 1) P l (encs x) W1 fun e W' => (e = .returned (.bool true) ∧ ¬ stp x ∧ J (pre ++ [x]) W' ∧ Below n₀ W1 W') ∨ (e = .returned (.bool false) ∧ stp x ∧ Jx (pre ++ [x]) W' ∧ Below n₀ W1 W')) → J [] W →
      CallsIn F (n - 1) P gf (#[.func (.yield l) #[] #[]] ++ lb) W fun e W' => (∃ v, e = .returned v) ∧ ((∃ xs, S xs ∧ J xs W') ∨ (∃ xs, Sp xs ∧ Jx xs W')))
    (I Ix : List α → World → Prop) (hI : OwnFrom w.heap.size I) (hIx : OwnFrom w.heap.size Ix) (hBx : ∀ s A, I s A → Bx A) (h0 : I [] w) (Ax : List α → α → Act → World → Prop) (hAx : ∀ pre x a', OwnFrom w.heap.size (fun (_ : Unit) W => Ax pre x a' W))
    (hassign : ∀ (l : Nat) (pre : List α) (x : α) (W : World) (K : Act → World → Prop), I pre W → V x W → pre.length < N → (∀ a' W', KeepsFrom w.heap.size W W' → Below n₀ W W' → Ax pre x a' W' → K a' W') →
      assign.wpIn (F.inRound l) (n - 1 - 1) P (Exit.then K (fun _ _ _ => False)) { tmps := (ps.zip (encs x)).foldl (fun t (p, v) => t.setIfInBounds p v) a.tmps, defers := [] } W)
    (hbody : ∀ (l : Nat) (pre : List α) (x : α) (a' : Act) (W : World), Ax pre x a' W → body.wpIn (F.inRound l) (n - 1 - 1) P (fun e _ W' => KeepsFrom w.heap.size W W' ∧ Below n₀ W W' ∧ ((e = .normal ∧ ¬ stp x ∧ I (pre ++ [x]) W') ∨ (e = .ret ∧ stp x ∧ Ix (pre ++ [x]) W'))) a' W)
    (hdone : ∀ (D : Nat) (xs : List α) (W : World), w.heap.size ≤ D → S xs → I xs W → W.heap[D]? = some (.deferred (some [])) → Q .normal { a with defers := { target := .collected D, args := #[] } :: a.defers } W)
    (hleft : ∀ (D : Nat) (xs : List α) (W : World), w.heap.size ≤ D → Sp xs → Ix xs W → W.heap[D]? = some (.deferred (some [])) → Q .ret { a with defers := { target := .collected D, args := #[] } :: a.defers } W) :
    (Code.rangeFunc g ps assign body).wpIn F n P Q a w := by
  refine wpIn_rangeFunc fun fn hfn => ?_
  rw [hro]
  obtain ⟨mk, hmk⟩ : ∃ mk : LoopState → Option Code → Loop, mk = fun st pe => { state := st, pending := pe, fn, tmps := a.tmps, params := ps, assign, body, defers := w.heap.size } := ⟨_, rfl⟩
  obtain ⟨W1, hW1⟩ : ∃ W1, (w.alloc (.deferred (some []))).alloc (.loop (mk .ready none)) = W1 := ⟨_, rfl⟩
  have hL1 : W1.heap[w.heap.size + 1]? = some (.loop (mk .ready none)) := by
    have := World.alloc_heap_new (w.alloc (.deferred (some []))) (.loop (mk .ready none))
    rwa [World.size_alloc, hW1] at this
  have hD1 : W1.heap[w.heap.size]? = some (.deferred (some [])) := by
    rw [← hW1]
    exact (Below.heap_alloc _ _ _ (by simp)).trans (World.alloc_heap_new w _)
  have hI1 : I [] W1 := by rw [← hW1]; exact hI.alloc _ (hI.alloc _ h0)
  have hB1 : Below w.heap.size w W1 := by rw [← hW1]; exact ((Below.refl _ w).alloc (Nat.le_refl _) _).alloc (by simp) _
  refine ⟨w.heap.size + 1, [{ target := .collected w.heap.size, args := #[] }], W1, { target := .fn (.func gf) lb, args := #[.func (.yield (w.heap.size + 1)) #[] #[]] }, W1, gf, #[.func (.yield (w.heap.size + 1)) #[] #[]] ++ lb, W1, ?_, ?_, ?_, ?_, fun _ => h1, ?_⟩
  · rw [← hW1, hmk]
    exact run_enterLoop_outer _ _ _ _ _
  · simp only [resolve, hg]
    simp [go_sem]
  · intro f' hf'
    simp [Target.leads] at hf'
    subst hf'
    exact hFg
  · simp [invoke, go_sem, eg]
  · refine (hseq (w.heap.size + 1) (fun pre W => I pre W ∧ W.heap[w.heap.size + 1]? = some (.loop (mk .ready none)) ∧ W.heap[w.heap.size]? = some (.deferred (some []))) (fun pre W => Ix pre W ∧ W.heap[w.heap.size + 1]? = some (.loop (mk .done (some .ret))) ∧ W.heap[w.heap.size]? = some (.deferred (some []))) W1 hB1 ?_ ?_ (fun s A h => hBx s A h.1) ?_ ⟨hI1, hL1, hD1⟩).mono ?_
    · rintro s A B ⟨hi, hl, hd⟩ hgr
      exact ⟨hI s A B none hi hgr (fun r e => by cases e), (hgr.block _ (Array.getElem?_eq_some_iff.1 hl).1 (by simp)).trans hl, (hgr.block _ (Array.getElem?_eq_some_iff.1 hd).1 (by simp)).trans hd⟩
    · rintro s A B ⟨hi, hl, hd⟩ hgr
      exact ⟨hIx s A B none hi hgr (fun r e => by cases e), (hgr.block _ (Array.getElem?_eq_some_iff.1 hl).1 (by simp)).trans hl, (hgr.block _ (Array.getElem?_eq_some_iff.1 hd).1 (by simp)).trans hd⟩
    · rintro pre x W ⟨hi, hl, hd⟩ hv hN
      have hy := run_yield (P := P) (args := encs x) hl (by rw [hmk]; exact hps x)
      rw [hmk] at hy
      refine ⟨fn, _, assign, body, hy, roundIn_of_wpIn hfn (hassign _ pre x W _ hi hv hN ?_)⟩
      clear hy
      intro a' Wa hk hb hax
      have hla := hk.same _ _ (by omega) hl rfl
      have hda := hk.same _ _ (Nat.le_refl _) hd rfl
      have hlt : w.heap.size + 1 < Wa.heap.size := (Array.getElem?_eq_some_iff.1 hla).1
      refine ⟨_, run_beginRound hla (by rw [hmk]), ?_⟩
      have hl2 : (Wa.putObj (w.heap.size + 1) (.loop { mk .ready none with state := .busy })).heap[w.heap.size + 1]? = some (.loop { mk .ready none with state := .busy }) := World.putObj_heap_same hlt
      have hd2 : (Wa.putObj (w.heap.size + 1) (.loop { mk .ready none with state := .busy })).heap[w.heap.size]? = some (.deferred (some [])) := (World.putObj_heap_other (by omega)).trans hda
      have hb2 := belowK_b (w := w) hn₀ Wa (w.heap.size + 1) _ (.loop { mk .ready none with state := .busy }) (by omega) hla rfl rfl
      refine wpIn_mono (hbody _ pre x a' _ ((hAx pre x a').putObj (s := ()) _ hax (by omega) hla rfl)) ?_
      rintro e a3 W3 ⟨hk3, hb3, hend⟩
      have hl3 := hk3.same _ _ (by omega) hl2 rfl
      have hd3 := hk3.same _ _ (Nat.le_refl _) hd2 rfl
      rcases hend with ⟨rfl, hx, hi3⟩ | ⟨rfl, hx, hi3⟩
      · have hr := run_endRound (P := P) none hl3
        rw [hmk] at hr hl3
        refine ⟨_, _, hr, .inl ⟨rfl, hx, ⟨hI.putObj _ hi3 (by omega) hl3 rfl, ?_, (World.putObj_heap_other (by omega)).trans hd3⟩, ?_⟩⟩
        · rw [hmk]
          exact World.putObj_heap_same (Array.getElem?_eq_some_iff.1 hl3).1
        · exact (hb.trans (hb2.trans hb3)).trans (belowK_b (w := w) hn₀ W3 (w.heap.size + 1) _ _ (by omega) hl3 rfl rfl)
      · have hr := run_endRound (P := P) (some .ret) hl3
        rw [hmk] at hr hl3
        refine ⟨_, _, hr, .inr ⟨rfl, hx, ⟨hIx.putObj _ hi3 (by omega) hl3 rfl, ?_, (World.putObj_heap_other (by omega)).trans hd3⟩, ?_⟩⟩
        · rw [hmk]
          exact World.putObj_heap_same (Array.getElem?_eq_some_iff.1 hl3).1
        · exact (hb.trans (hb2.trans hb3)).trans (belowK_b (w := w) hn₀ W3 (w.heap.size + 1) _ _ (by omega) hl3 rfl rfl)
    · rintro e W2 ⟨⟨v, rfl⟩, ⟨xs, hS, hi, hl, hd⟩ | ⟨xs, hS, hi, hl, hd⟩⟩
      · have hr := run_endLoop (P := P) hl (by rw [hmk]; simp)
        rw [hmk] at hr
        exact ⟨none, _, hr, hdone _ xs _ (Nat.le_refl _) hS (hI.putObj _ hi (by omega) hl rfl) ((World.putObj_heap_other (by omega)).trans hd)⟩
      · have hr := run_endLoop (P := P) hl (by rw [hmk]; simp)
        rw [hmk] at hr
        exact ⟨some .ret, _, hr, wpIn_ret (hleft _ xs _ (Nat.le_refl _) hS (hIx.putObj _ hi (by omega) hl rfl) ((World.putObj_heap_other (by omega)).trans hd))⟩
end Go.Proofs.YtdcfonmjbelgbaaGreatDoor
end
section
namespace Go.Proofs.YtdcfonmjbelgbaaGreatDoor
open Go.RowKit Q Go.Proofs.YtdcfonmjbelgbaaGreatDoorW.PrintWords Go.Proofs.YtdcfonmjbelgbaaGreatDoorW.PrintLast Go.Proofs.YtdcfonmjbelgbaaGreatDoorW.PrintMore
attribute [local go_sem] Oper.semAt_some
theorem ngrown_of {w w' : World} (b : Below w.heap.size w w') : w.grownBy w' none := ⟨b.os, b.tape, b.output, b.size, fun k hk _ => b.block k hk⟩
end Go.Proofs.YtdcfonmjbelgbaaGreatDoor
end
section
namespace Go.Proofs.YtdcfonmjbelgbaaGreatDoor
open Go.RowKit Q Go.Proofs.YtdcfonmjbelgbaaGreatDoorW.PrintWords Go.Proofs.YtdcfonmjbelgbaaGreatDoorW.PrintLast Go.Proofs.YtdcfonmjbelgbaaGreatDoorW.PrintMore
theorem ngrown_set (w : World) (g i : Nat) (v : Value) : w.grownBy (w.setCell ⟨g, i, none⟩ v) (some g) := ⟨rfl, rfl, rfl, by simp, fun k _ hk => Below.heap_setCell w ⟨g, i, none⟩ v k (fun e => hk (by rw [e]))⟩
theorem ngrown_below {w w' : World} (b : Below w.heap.size w w') (r : Option Nat) : w.grownBy w' r := ⟨b.os, b.tape, b.output, b.size, fun k hk _ => b.block k hk⟩
theorem nR_step {α : Type} {d : Kd α} {e base : Nat} {W W1 : World} {ok : Nat → Prop} {v : Value} {xs : List α} {row : Option Nat} (h : d.R e W base ok v xs) (hg : W.grownBy W1 row) (t : TypeId) (hrow : ∀ k, row = some k → ∃ cells, W.heap[k]? = some (.cells cells t (0, 0))) (ht : ∀ q, q ∈ e :: d.E → q ≠ t) : d.R e W1 base ok v xs :=
  Kd.R_mono (Kd.R_move (Kd.R_bound h) (fun k hk => hg.block k hk.2.2.1 (fun e' => by
    obtain ⟨_, _, _, q, hq, cells, hc⟩ := hk
    obtain ⟨cells2, hc2⟩ := hrow k e'.symm
    rw [hc] at hc2
    injection hc2 with hc2
    injection hc2 with _ hc2
    exact ht q hq hc2))) (fun _ hk => hk.1)
theorem nbox_step {W W1 : World} {B : Nat} {T : TypeId} {v : Value} {row : Option Nat} (h : Boxed W B T v) (hg : W.grownBy W1 row) (t : TypeId) (hrow : ∀ k, row = some k → ∃ cells, W.heap[k]? = some (.cells cells t (0, 0))) (ht : T ≠ t) : Boxed W1 B T v :=
  h.kept hg (fun e => by
    obtain ⟨cells2, hc2⟩ := hrow B e.symm
    rw [show W.heap[B]? = _ from h] at hc2
    injection hc2 with hc2
    injection hc2 with _ hc2
    exact ht hc2)
theorem nR_calm {α : Type} {d : Kd α} {e base : Nat} {ok : Nat → Prop} {X Y : World} {v : Value} {xs : List α} {row : Option Nat} (h : d.R e X base ok v xs) (hg : X.grownBy Y row) (hr : ∀ r, row = some r → ∃ o : Obj, X.heap[r]? = some o ∧ o.isCells = false) : d.R e Y base ok v xs :=
  Kd.R_mono (Kd.R_move (Kd.R_bound h) (fun k hk => hg.block k hk.2.2.1 (fun e' => by
    obtain ⟨_, _, _, q, _, cells, hc⟩ := hk
    obtain ⟨o, ho, hn⟩ := hr k e'.symm
    rw [hc] at ho
    cases ho
    cases hn))) (fun _ hk => hk.1)
theorem nblk_calm {X Y : World} {g : Nat} {c : Array Value} {T : TypeId} {row : Option Nat} (h : Blk X g c T) (hg : X.grownBy Y row) (hr : ∀ r, row = some r → ∃ o : Obj, X.heap[r]? = some o ∧ o.isCells = false) : Blk Y g c T :=
  (hg.block g (Array.getElem?_eq_some_iff.1 (show X.heap[g]? = _ from h)).1 (fun e' => by
    obtain ⟨o, ho, hn⟩ := hr g e'.symm
    rw [show X.heap[g]? = _ from h] at ho
    cases ho
    cases hn)).trans h
theorem nbelow_between {n : Nat} {w W W1 : World} (b1 : Below n w W) (b2 : Below n w W1) (hs : W.heap.size ≤ W1.heap.size) : Below n W W1 :=
  ⟨b2.os.trans b1.os.symm, b2.tape.trans b1.tape.symm, b2.output.trans b1.output.symm, hs, fun k hk => (b2.block k hk).trans (b1.block k hk).symm⟩
theorem nkeeps_typed {B : Nat} {W W1 : World} {row : Option Nat} (hg : W.grownBy W1 row) {t : TypeId} (hrow : ∀ k, row = some k → ∃ cells, W.heap[k]? = some (.cells cells t (0, 0))) : KeepsFrom B W W1 :=
  ⟨hg.size, fun k o _ hk ho => (hg.block k (Array.getElem?_eq_some_iff.1 hk).1 (fun e => by
    obtain ⟨cells, hc⟩ := hrow k e.symm
    rw [hc] at hk
    cases hk
    cases ho)).trans hk⟩
end Go.Proofs.YtdcfonmjbelgbaaGreatDoor
end
section
namespace Go.Proofs.YtdcfonmjbelgbaaGreatDoor
open Go.RowKit Q Go.Proofs.YtdcfonmjbelgbaaGreatDoorW.PrintWords Go.Proofs.YtdcfonmjbelgbaaGreatDoorW.PrintLast Go.Proofs.YtdcfonmjbelgbaaGreatDoorW.PrintMore
attribute [local go_sem] Oper.semAt_some
theorem chunk_calls (g cap : Nat) (w : World) (n : Nat) : CallsIn Fence.wide n Tryz.prog 40 #[.slice (some ⟨g, 0, none⟩) 384 cap, .int .i64 64] w fun e w' => e = .returned (.func (.func 58) #[] #[.pointer (some ⟨w.heap.size, 0, none⟩), .pointer (some ⟨w.heap.size + 1, 0, none⟩)]) ∧ w' = (w.alloc (.cells #[.slice (some ⟨g, 0, none⟩) 384 cap] 80)).alloc (.cells #[.int .i64 64] 3) := by
  refine callsIn_of_wp Tryz.func40 rfl trivial ?_ rfl
  simp only [Tryz.ntmps40, List.size_toArray, List.length_cons, List.length_nil, Nat.reduceAdd, Nat.reduceSub, Array.replicate_succ, Array.replicate_zero, List.push_toArray, List.append_toArray, List.nil_append, List.cons_append]
  gi_wp2
  go_ret
  exact ⟨rfl, rfl⟩
set_option maxRecDepth 100000 in
set_option maxHeartbeats 1000000 in
theorem chunk_in (n : Nat) (hn : 1 ≤ n) (l B1 B2 g cap : Nat) (hcap : 384 ≤ cap) (w0 : World) (J Jx : List Nat → World → Prop) (hJ : ∀ s A B, J s A → A.grownBy B none → J s B) (hBx : ∀ p A, J p A → A.cell? ⟨B1, 0, none⟩ = some (.slice (some ⟨g, 0, none⟩) 384 cap) ∧ A.cell? ⟨B2, 0, none⟩ = some (.int .i64 64))
    (hY : ∀ pre x W1, J pre W1 → x < 6 → pre.length < 6 → YieldAt Fence.wide (n - 1) Tryz.prog l #[.slice (some ⟨g, 64 * x, none⟩) 64 64] W1 fun e W' => (e = .returned (.bool true) ∧ ¬ False ∧ J (pre ++ [x]) W' ∧ Below w0.heap.size W1 W') ∨ (e = .returned (.bool false) ∧ False ∧ Jx (pre ++ [x]) W' ∧ Below w0.heap.size W1 W'))
    (W : World) (hb0 : Below w0.heap.size w0 W) (h0 : J [] W) :
    CallsIn Fence.wide n Tryz.prog 58 #[.func (.yield l) #[] #[], .pointer (some ⟨B1, 0, none⟩), .pointer (some ⟨B2, 0, none⟩)] W fun e W' => (∃ v, e = .returned v) ∧ ((∃ ys : List Nat, ys = [0, 1, 2, 3, 4, 5] ∧ J ys W') ∨ (∃ ys : List Nat, False ∧ Jx ys W')) := by
  have HJ := Aside0.mk h0
  have HB := Aside0.mk hb0
  have HY := Aside0.mk hY
  have HG := Aside0.mk hJ
  have HX := Aside0.mk hBx
  clear h0 hb0 hY hJ hBx
  refine callsIn_of_wp Tryz.func58 rfl trivial ?_ rfl
  simp only [Tryz.ntmps58, List.size_toArray, List.length_cons, List.length_nil, Nat.reduceAdd, Nat.reduceSub, Array.replicate_succ, Array.replicate_zero, List.push_toArray, List.append_toArray, List.nil_append, List.cons_append]
  gi_wp2
  gi_loopw [4] (fun i wr => ∃ k : Nat, k ≤ 6 ∧ i = .int .i64 ((64 * k : Nat) : Int) ∧ Aside0 (J (List.range k) wr) ∧ Aside0 (Below w0.heap.size w0 wr)) (fun i _ => 384 - (intOf i).toNat)
  case atStart => exact ⟨0, Nat.zero_le _, rfl, HJ, HB⟩
  case round =>
    clear HJ HB
    obtain ⟨k, hk, rfl, HJ, HB⟩ := hrel
    obtain ⟨hc1, hc2⟩ := HX.out _ _ HJ.out
    by_cases h6 : k = 6
    case pos =>
      subst h6
      gi_wp2
      go_end0
      exact ⟨⟨_, rfl⟩, .inl ⟨_, rfl, HJ.out⟩⟩
    case neg =>
      have hk5 : k = 0 ∨ k = 1 ∨ k = 2 ∨ k = 3 ∨ k = 4 ∨ k = 5 := by omega
      clear hk h6
      rcases hk5 with rfl | rfl | rfl | rfl | rfl | rfl
      · gi_wp2
        refine wpIn_wide.2 ?_
        refine start_ (n := 7) (S := fun w' => w'.cell? ⟨B2, 0, none⟩ = some (.int .i64 64) ∧ w'.cell? ⟨B1, 0, none⟩ = some (.slice (some ⟨g, 0, none⟩) 384 cap)) (ds := []) #[false, false, false, false, false, false, false] (by kernel_rfl) rfl rfl ⟨hc2, hc1⟩ (fun hHeld => ?_)
        refine pure_ (i := 2) (N := some 15) (v := ?_) (a' := ?_) #[false, false, true, false, false, false, false] rfl rfl (by kernel_rfl) (fun _ _ _ h => h) (Or.inl ⟨by rfl, ?_⟩) ?_ ?_
        rotate_left
        · intro w'
          go_simp
          with_reducible rfl
        rotate_left
        · simp only [Act.put, List.setIfInBounds_toArray, List.set_cons_zero, List.set_cons_succ]
          rfl
        refine take_ (i := 0) (N := some 13) (v := ?_) (a' := ?_) #[true, false, true, false, false, false, false] rfl rfl (by kernel_rfl) (fun _ _ _ h => h) (Or.inl ⟨by rfl, ?_⟩) hHeld ?_ ?_
        rotate_left
        · rintro w' ⟨s0, s1⟩
          go_simp
          with_reducible rfl
        rotate_left
        · simp only [Act.put, List.setIfInBounds_toArray, List.set_cons_zero, List.set_cons_succ]
          rfl
        refine take_ (i := 1) (N := some 14) (v := ?_) (a' := ?_) #[true, true, true, false, false, false, false] rfl rfl (by kernel_rfl) (fun _ _ _ h => h) (Or.inl ⟨by rfl, ?_⟩) hHeld ?_ ?_
        rotate_left
        · rintro w' ⟨s0, s1⟩
          go_simp
          with_reducible rfl
        rotate_left
        · simp only [Act.put, List.setIfInBounds_toArray, List.set_cons_zero, List.set_cons_succ]
          rfl
        refine pure_ (i := 3) (N := some 16) (v := ?_) (a' := ?_) #[true, true, true, true, false, false, false] rfl rfl (by kernel_rfl) (fun _ _ _ h => h) (Or.inl ⟨by rfl, ?_⟩) ?_ ?_
        rotate_left
        · intro w'
          go_simp
          with_reducible rfl
        rotate_left
        · simp only [Act.put, List.setIfInBounds_toArray, List.set_cons_zero, List.set_cons_succ]
          rfl
        refine pure_ (i := 4) (N := some 17) (v := ?_) (a' := ?_) #[true, true, true, true, true, false, false] rfl rfl (by kernel_rfl) (fun _ _ _ h => h) (Or.inl ⟨by rfl, ?_⟩) ?_ ?_
        rotate_left
        · intro w'
          go_simp
          with_reducible rfl
        rotate_left
        · simp only [Act.put, List.setIfInBounds_toArray, List.set_cons_zero, List.set_cons_succ]
          rfl
        refine pure_ (i := 5) (N := some 18) (v := ?_) (a' := ?_) #[true, true, true, true, true, true, false] rfl rfl (by kernel_rfl) (fun _ _ _ h => h) (Or.inl ⟨by rfl, ?_⟩) ?_ ?_
        rotate_left
        · intro w'
          go_simp
          with_reducible rfl
        rotate_left
        · simp only [Act.put, List.setIfInBounds_toArray, List.set_cons_zero, List.set_cons_succ]
          rfl
        refine pure_ (i := 6) (N := some 5) (v := ?_) (a' := ?_) #[true, true, true, true, true, true, true] rfl rfl (by kernel_rfl) (fun _ _ _ h => h) (Or.inl ⟨by rfl, ?_⟩) ?_ ?_
        rotate_left
        · intro w'
          go_simp
          with_reducible rfl
        rotate_left
        · simp only [Act.put, List.setIfInBounds_toArray, List.set_cons_zero, List.set_cons_succ]
          rfl
        refine done_ (by kernel_rfl) ?_
        have HJ1 := HG.out _ _ _ HJ.out (ngrown_of (Below.drew (Below.refl _ _)))
        have HB1 := Below.drew HB.out
        clear hHeld
        generalize wr.drew = wd at HJ1 HB1 ⊢
        obtain ⟨hc1, hc2⟩ := HX.out _ _ HJ1
        obtain ⟨fn, tmps, assign, body, hy, hRd⟩ := HY.out (List.range 0) 0 wd HJ1 (by decide) (by decide)
        simp only [Nat.reduceMul] at hy
        gi_wp2
        refine hRd.mono ?_
        rintro e3 W3 (⟨rfl, _, hJ3, hk3⟩ | ⟨_, hf, _, _⟩)
        · obtain ⟨hc1, hc2⟩ := HX.out _ _ hJ3
          gi_wp2
          go_roundw
          case rel => exact ⟨1, by decide, by first | rfl | go_num, ⟨hJ3⟩, ⟨HB1.trans hk3⟩⟩
          case measure => simp [intOf]
        · exact hf.elim
      · gi_wp2
        refine wpIn_wide.2 ?_
        refine start_ (n := 7) (S := fun w' => w'.cell? ⟨B2, 0, none⟩ = some (.int .i64 64) ∧ w'.cell? ⟨B1, 0, none⟩ = some (.slice (some ⟨g, 0, none⟩) 384 cap)) (ds := []) #[false, false, false, false, false, false, false] (by kernel_rfl) rfl rfl ⟨hc2, hc1⟩ (fun hHeld => ?_)
        refine pure_ (i := 2) (N := some 15) (v := ?_) (a' := ?_) #[false, false, true, false, false, false, false] rfl rfl (by kernel_rfl) (fun _ _ _ h => h) (Or.inl ⟨by rfl, ?_⟩) ?_ ?_
        rotate_left
        · intro w'
          go_simp
          with_reducible rfl
        rotate_left
        · simp only [Act.put, List.setIfInBounds_toArray, List.set_cons_zero, List.set_cons_succ]
          rfl
        refine take_ (i := 0) (N := some 13) (v := ?_) (a' := ?_) #[true, false, true, false, false, false, false] rfl rfl (by kernel_rfl) (fun _ _ _ h => h) (Or.inl ⟨by rfl, ?_⟩) hHeld ?_ ?_
        rotate_left
        · rintro w' ⟨s0, s1⟩
          go_simp
          with_reducible rfl
        rotate_left
        · simp only [Act.put, List.setIfInBounds_toArray, List.set_cons_zero, List.set_cons_succ]
          rfl
        refine take_ (i := 1) (N := some 14) (v := ?_) (a' := ?_) #[true, true, true, false, false, false, false] rfl rfl (by kernel_rfl) (fun _ _ _ h => h) (Or.inl ⟨by rfl, ?_⟩) hHeld ?_ ?_
        rotate_left
        · rintro w' ⟨s0, s1⟩
          go_simp
          with_reducible rfl
        rotate_left
        · simp only [Act.put, List.setIfInBounds_toArray, List.set_cons_zero, List.set_cons_succ]
          rfl
        refine pure_ (i := 3) (N := some 16) (v := ?_) (a' := ?_) #[true, true, true, true, false, false, false] rfl rfl (by kernel_rfl) (fun _ _ _ h => h) (Or.inl ⟨by rfl, ?_⟩) ?_ ?_
        rotate_left
        · intro w'
          go_simp
          with_reducible rfl
        rotate_left
        · simp only [Act.put, List.setIfInBounds_toArray, List.set_cons_zero, List.set_cons_succ]
          rfl
        refine pure_ (i := 4) (N := some 17) (v := ?_) (a' := ?_) #[true, true, true, true, true, false, false] rfl rfl (by kernel_rfl) (fun _ _ _ h => h) (Or.inl ⟨by rfl, ?_⟩) ?_ ?_
        rotate_left
        · intro w'
          go_simp
          with_reducible rfl
        rotate_left
        · simp only [Act.put, List.setIfInBounds_toArray, List.set_cons_zero, List.set_cons_succ]
          rfl
        refine pure_ (i := 5) (N := some 18) (v := ?_) (a' := ?_) #[true, true, true, true, true, true, false] rfl rfl (by kernel_rfl) (fun _ _ _ h => h) (Or.inl ⟨by rfl, ?_⟩) ?_ ?_
        rotate_left
        · intro w'
          go_simp
          with_reducible rfl
        rotate_left
        · simp only [Act.put, List.setIfInBounds_toArray, List.set_cons_zero, List.set_cons_succ]
          rfl
        refine pure_ (i := 6) (N := some 5) (v := ?_) (a' := ?_) #[true, true, true, true, true, true, true] rfl rfl (by kernel_rfl) (fun _ _ _ h => h) (Or.inl ⟨by rfl, ?_⟩) ?_ ?_
        rotate_left
        · intro w'
          go_simp
          with_reducible rfl
        rotate_left
        · simp only [Act.put, List.setIfInBounds_toArray, List.set_cons_zero, List.set_cons_succ]
          rfl
        refine done_ (by kernel_rfl) ?_
        have HJ1 := HG.out _ _ _ HJ.out (ngrown_of (Below.drew (Below.refl _ _)))
        have HB1 := Below.drew HB.out
        clear hHeld
        generalize wr.drew = wd at HJ1 HB1 ⊢
        obtain ⟨hc1, hc2⟩ := HX.out _ _ HJ1
        obtain ⟨fn, tmps, assign, body, hy, hRd⟩ := HY.out (List.range 1) 1 wd HJ1 (by decide) (by decide)
        simp only [Nat.reduceMul] at hy
        gi_wp2
        refine hRd.mono ?_
        rintro e3 W3 (⟨rfl, _, hJ3, hk3⟩ | ⟨_, hf, _, _⟩)
        · obtain ⟨hc1, hc2⟩ := HX.out _ _ hJ3
          gi_wp2
          go_roundw
          case rel => exact ⟨2, by decide, by first | rfl | go_num, ⟨hJ3⟩, ⟨HB1.trans hk3⟩⟩
          case measure => simp [intOf]
        · exact hf.elim
      · gi_wp2
        refine wpIn_wide.2 ?_
        refine start_ (n := 7) (S := fun w' => w'.cell? ⟨B2, 0, none⟩ = some (.int .i64 64) ∧ w'.cell? ⟨B1, 0, none⟩ = some (.slice (some ⟨g, 0, none⟩) 384 cap)) (ds := []) #[false, false, false, false, false, false, false] (by kernel_rfl) rfl rfl ⟨hc2, hc1⟩ (fun hHeld => ?_)
        refine pure_ (i := 2) (N := some 15) (v := ?_) (a' := ?_) #[false, false, true, false, false, false, false] rfl rfl (by kernel_rfl) (fun _ _ _ h => h) (Or.inl ⟨by rfl, ?_⟩) ?_ ?_
        rotate_left
        · intro w'
          go_simp
          with_reducible rfl
        rotate_left
        · simp only [Act.put, List.setIfInBounds_toArray, List.set_cons_zero, List.set_cons_succ]
          rfl
        refine take_ (i := 0) (N := some 13) (v := ?_) (a' := ?_) #[true, false, true, false, false, false, false] rfl rfl (by kernel_rfl) (fun _ _ _ h => h) (Or.inl ⟨by rfl, ?_⟩) hHeld ?_ ?_
        rotate_left
        · rintro w' ⟨s0, s1⟩
          go_simp
          with_reducible rfl
        rotate_left
        · simp only [Act.put, List.setIfInBounds_toArray, List.set_cons_zero, List.set_cons_succ]
          rfl
        refine take_ (i := 1) (N := some 14) (v := ?_) (a' := ?_) #[true, true, true, false, false, false, false] rfl rfl (by kernel_rfl) (fun _ _ _ h => h) (Or.inl ⟨by rfl, ?_⟩) hHeld ?_ ?_
        rotate_left
        · rintro w' ⟨s0, s1⟩
          go_simp
          with_reducible rfl
        rotate_left
        · simp only [Act.put, List.setIfInBounds_toArray, List.set_cons_zero, List.set_cons_succ]
          rfl
        refine pure_ (i := 3) (N := some 16) (v := ?_) (a' := ?_) #[true, true, true, true, false, false, false] rfl rfl (by kernel_rfl) (fun _ _ _ h => h) (Or.inl ⟨by rfl, ?_⟩) ?_ ?_
        rotate_left
        · intro w'
          go_simp
          with_reducible rfl
        rotate_left
        · simp only [Act.put, List.setIfInBounds_toArray, List.set_cons_zero, List.set_cons_succ]
          rfl
        refine pure_ (i := 4) (N := some 17) (v := ?_) (a' := ?_) #[true, true, true, true, true, false, false] rfl rfl (by kernel_rfl) (fun _ _ _ h => h) (Or.inl ⟨by rfl, ?_⟩) ?_ ?_
        rotate_left
        · intro w'
          go_simp
          with_reducible rfl
        rotate_left
        · simp only [Act.put, List.setIfInBounds_toArray, List.set_cons_zero, List.set_cons_succ]
          rfl
        refine pure_ (i := 5) (N := some 18) (v := ?_) (a' := ?_) #[true, true, true, true, true, true, false] rfl rfl (by kernel_rfl) (fun _ _ _ h => h) (Or.inl ⟨by rfl, ?_⟩) ?_ ?_
        rotate_left
        · intro w'
          go_simp
          with_reducible rfl
        rotate_left
        · simp only [Act.put, List.setIfInBounds_toArray, List.set_cons_zero, List.set_cons_succ]
          rfl
        refine pure_ (i := 6) (N := some 5) (v := ?_) (a' := ?_) #[true, true, true, true, true, true, true] rfl rfl (by kernel_rfl) (fun _ _ _ h => h) (Or.inl ⟨by rfl, ?_⟩) ?_ ?_
        rotate_left
        · intro w'
          go_simp
          with_reducible rfl
        rotate_left
        · simp only [Act.put, List.setIfInBounds_toArray, List.set_cons_zero, List.set_cons_succ]
          rfl
        refine done_ (by kernel_rfl) ?_
        have HJ1 := HG.out _ _ _ HJ.out (ngrown_of (Below.drew (Below.refl _ _)))
        have HB1 := Below.drew HB.out
        clear hHeld
        generalize wr.drew = wd at HJ1 HB1 ⊢
        obtain ⟨hc1, hc2⟩ := HX.out _ _ HJ1
        obtain ⟨fn, tmps, assign, body, hy, hRd⟩ := HY.out (List.range 2) 2 wd HJ1 (by decide) (by decide)
        simp only [Nat.reduceMul] at hy
        gi_wp2
        refine hRd.mono ?_
        rintro e3 W3 (⟨rfl, _, hJ3, hk3⟩ | ⟨_, hf, _, _⟩)
        · obtain ⟨hc1, hc2⟩ := HX.out _ _ hJ3
          gi_wp2
          go_roundw
          case rel => exact ⟨3, by decide, by first | rfl | go_num, ⟨hJ3⟩, ⟨HB1.trans hk3⟩⟩
          case measure => simp [intOf]
        · exact hf.elim
      · gi_wp2
        refine wpIn_wide.2 ?_
        refine start_ (n := 7) (S := fun w' => w'.cell? ⟨B2, 0, none⟩ = some (.int .i64 64) ∧ w'.cell? ⟨B1, 0, none⟩ = some (.slice (some ⟨g, 0, none⟩) 384 cap)) (ds := []) #[false, false, false, false, false, false, false] (by kernel_rfl) rfl rfl ⟨hc2, hc1⟩ (fun hHeld => ?_)
        refine pure_ (i := 2) (N := some 15) (v := ?_) (a' := ?_) #[false, false, true, false, false, false, false] rfl rfl (by kernel_rfl) (fun _ _ _ h => h) (Or.inl ⟨by rfl, ?_⟩) ?_ ?_
        rotate_left
        · intro w'
          go_simp
          with_reducible rfl
        rotate_left
        · simp only [Act.put, List.setIfInBounds_toArray, List.set_cons_zero, List.set_cons_succ]
          rfl
        refine take_ (i := 0) (N := some 13) (v := ?_) (a' := ?_) #[true, false, true, false, false, false, false] rfl rfl (by kernel_rfl) (fun _ _ _ h => h) (Or.inl ⟨by rfl, ?_⟩) hHeld ?_ ?_
        rotate_left
        · rintro w' ⟨s0, s1⟩
          go_simp
          with_reducible rfl
        rotate_left
        · simp only [Act.put, List.setIfInBounds_toArray, List.set_cons_zero, List.set_cons_succ]
          rfl
        refine take_ (i := 1) (N := some 14) (v := ?_) (a' := ?_) #[true, true, true, false, false, false, false] rfl rfl (by kernel_rfl) (fun _ _ _ h => h) (Or.inl ⟨by rfl, ?_⟩) hHeld ?_ ?_
        rotate_left
        · rintro w' ⟨s0, s1⟩
          go_simp
          with_reducible rfl
        rotate_left
        · simp only [Act.put, List.setIfInBounds_toArray, List.set_cons_zero, List.set_cons_succ]
          rfl
        refine pure_ (i := 3) (N := some 16) (v := ?_) (a' := ?_) #[true, true, true, true, false, false, false] rfl rfl (by kernel_rfl) (fun _ _ _ h => h) (Or.inl ⟨by rfl, ?_⟩) ?_ ?_
        rotate_left
        · intro w'
          go_simp
          with_reducible rfl
        rotate_left
        · simp only [Act.put, List.setIfInBounds_toArray, List.set_cons_zero, List.set_cons_succ]
          rfl
        refine pure_ (i := 4) (N := some 17) (v := ?_) (a' := ?_) #[true, true, true, true, true, false, false] rfl rfl (by kernel_rfl) (fun _ _ _ h => h) (Or.inl ⟨by rfl, ?_⟩) ?_ ?_
        rotate_left
        · intro w'
          go_simp
          with_reducible rfl
        rotate_left
        · simp only [Act.put, List.setIfInBounds_toArray, List.set_cons_zero, List.set_cons_succ]
          rfl
        refine pure_ (i := 5) (N := some 18) (v := ?_) (a' := ?_) #[true, true, true, true, true, true, false] rfl rfl (by kernel_rfl) (fun _ _ _ h => h) (Or.inl ⟨by rfl, ?_⟩) ?_ ?_
        rotate_left
        · intro w'
          go_simp
          with_reducible rfl
        rotate_left
        · simp only [Act.put, List.setIfInBounds_toArray, List.set_cons_zero, List.set_cons_succ]
          rfl
        refine pure_ (i := 6) (N := some 5) (v := ?_) (a' := ?_) #[true, true, true, true, true, true, true] rfl rfl (by kernel_rfl) (fun _ _ _ h => h) (Or.inl ⟨by rfl, ?_⟩) ?_ ?_
        rotate_left
        · intro w'
          go_simp
          with_reducible rfl
        rotate_left
        · simp only [Act.put, List.setIfInBounds_toArray, List.set_cons_zero, List.set_cons_succ]
          rfl
        refine done_ (by kernel_rfl) ?_
        have HJ1 := HG.out _ _ _ HJ.out (ngrown_of (Below.drew (Below.refl _ _)))
        have HB1 := Below.drew HB.out
        clear hHeld
        generalize wr.drew = wd at HJ1 HB1 ⊢
        obtain ⟨hc1, hc2⟩ := HX.out _ _ HJ1
        obtain ⟨fn, tmps, assign, body, hy, hRd⟩ := HY.out (List.range 3) 3 wd HJ1 (by decide) (by decide)
        simp only [Nat.reduceMul] at hy
        gi_wp2
        refine hRd.mono ?_
        rintro e3 W3 (⟨rfl, _, hJ3, hk3⟩ | ⟨_, hf, _, _⟩)
        · obtain ⟨hc1, hc2⟩ := HX.out _ _ hJ3
          gi_wp2
          go_roundw
          case rel => exact ⟨4, by decide, by first | rfl | go_num, ⟨hJ3⟩, ⟨HB1.trans hk3⟩⟩
          case measure => simp [intOf]
        · exact hf.elim
      · gi_wp2
        refine wpIn_wide.2 ?_
        refine start_ (n := 7) (S := fun w' => w'.cell? ⟨B2, 0, none⟩ = some (.int .i64 64) ∧ w'.cell? ⟨B1, 0, none⟩ = some (.slice (some ⟨g, 0, none⟩) 384 cap)) (ds := []) #[false, false, false, false, false, false, false] (by kernel_rfl) rfl rfl ⟨hc2, hc1⟩ (fun hHeld => ?_)
        refine pure_ (i := 2) (N := some 15) (v := ?_) (a' := ?_) #[false, false, true, false, false, false, false] rfl rfl (by kernel_rfl) (fun _ _ _ h => h) (Or.inl ⟨by rfl, ?_⟩) ?_ ?_
        rotate_left
        · intro w'
          go_simp
          with_reducible rfl
        rotate_left
        · simp only [Act.put, List.setIfInBounds_toArray, List.set_cons_zero, List.set_cons_succ]
          rfl
        refine take_ (i := 0) (N := some 13) (v := ?_) (a' := ?_) #[true, false, true, false, false, false, false] rfl rfl (by kernel_rfl) (fun _ _ _ h => h) (Or.inl ⟨by rfl, ?_⟩) hHeld ?_ ?_
        rotate_left
        · rintro w' ⟨s0, s1⟩
          go_simp
          with_reducible rfl
        rotate_left
        · simp only [Act.put, List.setIfInBounds_toArray, List.set_cons_zero, List.set_cons_succ]
          rfl
        refine take_ (i := 1) (N := some 14) (v := ?_) (a' := ?_) #[true, true, true, false, false, false, false] rfl rfl (by kernel_rfl) (fun _ _ _ h => h) (Or.inl ⟨by rfl, ?_⟩) hHeld ?_ ?_
        rotate_left
        · rintro w' ⟨s0, s1⟩
          go_simp
          with_reducible rfl
        rotate_left
        · simp only [Act.put, List.setIfInBounds_toArray, List.set_cons_zero, List.set_cons_succ]
          rfl
        refine pure_ (i := 3) (N := some 16) (v := ?_) (a' := ?_) #[true, true, true, true, false, false, false] rfl rfl (by kernel_rfl) (fun _ _ _ h => h) (Or.inl ⟨by rfl, ?_⟩) ?_ ?_
        rotate_left
        · intro w'
          go_simp
          with_reducible rfl
        rotate_left
        · simp only [Act.put, List.setIfInBounds_toArray, List.set_cons_zero, List.set_cons_succ]
          rfl
        refine pure_ (i := 4) (N := some 17) (v := ?_) (a' := ?_) #[true, true, true, true, true, false, false] rfl rfl (by kernel_rfl) (fun _ _ _ h => h) (Or.inl ⟨by rfl, ?_⟩) ?_ ?_
        rotate_left
        · intro w'
          go_simp
          with_reducible rfl
        rotate_left
        · simp only [Act.put, List.setIfInBounds_toArray, List.set_cons_zero, List.set_cons_succ]
          rfl
        refine pure_ (i := 5) (N := some 18) (v := ?_) (a' := ?_) #[true, true, true, true, true, true, false] rfl rfl (by kernel_rfl) (fun _ _ _ h => h) (Or.inl ⟨by rfl, ?_⟩) ?_ ?_
        rotate_left
        · intro w'
          go_simp
          with_reducible rfl
        rotate_left
        · simp only [Act.put, List.setIfInBounds_toArray, List.set_cons_zero, List.set_cons_succ]
          rfl
        refine pure_ (i := 6) (N := some 5) (v := ?_) (a' := ?_) #[true, true, true, true, true, true, true] rfl rfl (by kernel_rfl) (fun _ _ _ h => h) (Or.inl ⟨by rfl, ?_⟩) ?_ ?_
        rotate_left
        · intro w'
          go_simp
          with_reducible rfl
        rotate_left
        · simp only [Act.put, List.setIfInBounds_toArray, List.set_cons_zero, List.set_cons_succ]
          rfl
        refine done_ (by kernel_rfl) ?_
        have HJ1 := HG.out _ _ _ HJ.out (ngrown_of (Below.drew (Below.refl _ _)))
        have HB1 := Below.drew HB.out
        clear hHeld
        generalize wr.drew = wd at HJ1 HB1 ⊢
        obtain ⟨hc1, hc2⟩ := HX.out _ _ HJ1
        obtain ⟨fn, tmps, assign, body, hy, hRd⟩ := HY.out (List.range 4) 4 wd HJ1 (by decide) (by decide)
        simp only [Nat.reduceMul] at hy
        gi_wp2
        refine hRd.mono ?_
        rintro e3 W3 (⟨rfl, _, hJ3, hk3⟩ | ⟨_, hf, _, _⟩)
        · obtain ⟨hc1, hc2⟩ := HX.out _ _ hJ3
          gi_wp2
          go_roundw
          case rel => exact ⟨5, by decide, by first | rfl | go_num, ⟨hJ3⟩, ⟨HB1.trans hk3⟩⟩
          case measure => simp [intOf]
        · exact hf.elim
      · gi_wp2
        refine wpIn_wide.2 ?_
        refine start_ (n := 7) (S := fun w' => w'.cell? ⟨B2, 0, none⟩ = some (.int .i64 64) ∧ w'.cell? ⟨B1, 0, none⟩ = some (.slice (some ⟨g, 0, none⟩) 384 cap)) (ds := []) #[false, false, false, false, false, false, false] (by kernel_rfl) rfl rfl ⟨hc2, hc1⟩ (fun hHeld => ?_)
        refine pure_ (i := 2) (N := some 15) (v := ?_) (a' := ?_) #[false, false, true, false, false, false, false] rfl rfl (by kernel_rfl) (fun _ _ _ h => h) (Or.inl ⟨by rfl, ?_⟩) ?_ ?_
        rotate_left
        · intro w'
          go_simp
          with_reducible rfl
        rotate_left
        · simp only [Act.put, List.setIfInBounds_toArray, List.set_cons_zero, List.set_cons_succ]
          rfl
        refine take_ (i := 0) (N := some 13) (v := ?_) (a' := ?_) #[true, false, true, false, false, false, false] rfl rfl (by kernel_rfl) (fun _ _ _ h => h) (Or.inl ⟨by rfl, ?_⟩) hHeld ?_ ?_
        rotate_left
        · rintro w' ⟨s0, s1⟩
          go_simp
          with_reducible rfl
        rotate_left
        · simp only [Act.put, List.setIfInBounds_toArray, List.set_cons_zero, List.set_cons_succ]
          rfl
        refine take_ (i := 1) (N := some 14) (v := ?_) (a' := ?_) #[true, true, true, false, false, false, false] rfl rfl (by kernel_rfl) (fun _ _ _ h => h) (Or.inl ⟨by rfl, ?_⟩) hHeld ?_ ?_
        rotate_left
        · rintro w' ⟨s0, s1⟩
          go_simp
          with_reducible rfl
        rotate_left
        · simp only [Act.put, List.setIfInBounds_toArray, List.set_cons_zero, List.set_cons_succ]
          rfl
        refine pure_ (i := 3) (N := some 16) (v := ?_) (a' := ?_) #[true, true, true, true, false, false, false] rfl rfl (by kernel_rfl) (fun _ _ _ h => h) (Or.inl ⟨by rfl, ?_⟩) ?_ ?_
        rotate_left
        · intro w'
          go_simp
          with_reducible rfl
        rotate_left
        · simp only [Act.put, List.setIfInBounds_toArray, List.set_cons_zero, List.set_cons_succ]
          rfl
        refine pure_ (i := 4) (N := some 17) (v := ?_) (a' := ?_) #[true, true, true, true, true, false, false] rfl rfl (by kernel_rfl) (fun _ _ _ h => h) (Or.inl ⟨by rfl, ?_⟩) ?_ ?_
        rotate_left
        · intro w'
          go_simp
          with_reducible rfl
        rotate_left
        · simp only [Act.put, List.setIfInBounds_toArray, List.set_cons_zero, List.set_cons_succ]
          rfl
        refine pure_ (i := 5) (N := some 18) (v := ?_) (a' := ?_) #[true, true, true, true, true, true, false] rfl rfl (by kernel_rfl) (fun _ _ _ h => h) (Or.inl ⟨by rfl, ?_⟩) ?_ ?_
        rotate_left
        · intro w'
          go_simp
          with_reducible rfl
        rotate_left
        · simp only [Act.put, List.setIfInBounds_toArray, List.set_cons_zero, List.set_cons_succ]
          rfl
        refine pure_ (i := 6) (N := some 5) (v := ?_) (a' := ?_) #[true, true, true, true, true, true, true] rfl rfl (by kernel_rfl) (fun _ _ _ h => h) (Or.inl ⟨by rfl, ?_⟩) ?_ ?_
        rotate_left
        · intro w'
          go_simp
          with_reducible rfl
        rotate_left
        · simp only [Act.put, List.setIfInBounds_toArray, List.set_cons_zero, List.set_cons_succ]
          rfl
        refine done_ (by kernel_rfl) ?_
        have HJ1 := HG.out _ _ _ HJ.out (ngrown_of (Below.drew (Below.refl _ _)))
        have HB1 := Below.drew HB.out
        clear hHeld
        generalize wr.drew = wd at HJ1 HB1 ⊢
        obtain ⟨hc1, hc2⟩ := HX.out _ _ HJ1
        obtain ⟨fn, tmps, assign, body, hy, hRd⟩ := HY.out (List.range 5) 5 wd HJ1 (by decide) (by decide)
        simp only [Nat.reduceMul] at hy
        gi_wp2
        refine hRd.mono ?_
        rintro e3 W3 (⟨rfl, _, hJ3, hk3⟩ | ⟨_, hf, _, _⟩)
        · obtain ⟨hc1, hc2⟩ := HX.out _ _ hJ3
          gi_wp2
          go_roundw
          case rel => exact ⟨6, by decide, by first | rfl | go_num, ⟨hJ3⟩, ⟨HB1.trans hk3⟩⟩
          case measure => simp [intOf]
        · exact hf.elim
end Go.Proofs.YtdcfonmjbelgbaaGreatDoor
end
section
namespace Go.Proofs.YtdcfonmjbelgbaaGreatDoor
open Go.RowKit
section
variable {P : Program}
theorem zeros_cells (m : Nat) : Builtin.zeroCells (Value.int .u8 0).cells m = (Lib.byteCells (List.replicate m 0)).toArray := by
  apply Array.ext'
  simp [Builtin.zeroCells, Lib.byteCells, Value.cells]
  apply List.ext_getElem
  · simp
  · intro i h1 h2
    simp [Nat.mod_one]
theorem run_append_zerosB (w : World) (B : Nat) (t ti ty E : TypeId) (i : TypeInfo) (ht : P.underlying t = some (.slice E)) {k : IntKind} (hti : P.underlying ti = some (.int k)) (hi : P.info? E = some i) (hz : i.zero = some (.int .u8 0)) (hsize : i.size = 1) (hby : i.bytes = 1)
    (g cap : Nat) (l : List UInt8) (hown : RowB B E (.slice (some ⟨g, 0, none⟩) l.length cap) l w) (kx : IntKind) (m : Nat)
    (hlen : l.length + m ≤ 140737488355328) (hbase : B ≤ w.heap.size) :
    ∃ v' w', (Builtin.append_ #[t, ti] ty #[.slice (some ⟨g, 0, none⟩) l.length cap, .int kx m]).run P w = .ok v' w' ∧ RowB B E v' (l ++ List.replicate m 0) w' ∧ w.grownBy w' (some g) := by
  have hm63 : l.length + m ≤ maxLen := by unfold maxLen; omega
  have hw : IntKind.i64.wrap (m : Int) = m := by rw [IntKind.wrap_i64]; omega
  have hw0 : IntKind.i64.wrap 0 = 0 := by rw [IntKind.wrap_i64]; rfl
  have hneg : ¬ ((m : Int) < 0) := by omega
  have hbig : ¬ (281474976710656 < (m : Int) * (i.bytes : Int)) := by rw [hby]; omega
  rcases hown with ⟨h0, _⟩ | ⟨g2, cap2, cur, fz, hv, hbg, hg, hfz, hnc, hcm, hcs, htake⟩
  · cases h0
  obtain ⟨rfl, rfl⟩ : g = g2 ∧ cap = cap2 := by
    injection hv with e1 e2 e3
    injection e1 with e1
    injection e1 with e1
    exact ⟨e1, e3⟩
  obtain ⟨news, hnews⟩ : ∃ news, news = Lib.byteCells (List.replicate m 0) := ⟨_, rfl⟩
  have hl : news.length = m := by rw [hnews, Lib.byteCells_length, List.length_replicate]
  have hna : Builtin.zeroCells (Value.int .u8 0).cells m = news.toArray := by rw [zeros_cells, hnews]
  have h1 : ∀ u ∈ news, u.oneCell' = true := by rw [hnews]; exact byteCells_one _
  by_cases hroom : l.length + m ≤ cap
  · have hst := run_storeCells_free (P := P) g E fz news (l.length * 1) 0 cur w hg (fun k hk1 hk2 => hfz k (by omega) (by omega)) (by omega) h1
    simp only [Nat.add_zero, Nat.mul_one] at hst
    have hr : (Builtin.append_ #[t, ti] ty #[.slice (some ⟨g, 0, none⟩) l.length cap, .int kx m]).run P w = .ok (.slice (some ⟨g, 0, none⟩) (l.length + m) cap) (w.setRow g (cur.toList.take l.length ++ news ++ cur.toList.drop (l.length + news.length)).toArray) := by
      by_cases hm : m = 0
      · subst hm
        have hnl : news = [] := List.eq_nil_of_length_eq_zero hl
        subst hnl
        simp only [List.length_nil, Nat.add_zero] at hst
        simp [Builtin.append_, run_underlying ht, run_underlying hti, sizeOf, typeInfo, hi, asInt, asIntOf, hw0, hnc, hst, hsize, Addr.add_lit]
      · simp [Builtin.append_, run_underlying ht, run_underlying hti, sizeOf, typeInfo, zeroValue, hi, hz, asInt, asIntOf, hw, hneg, hbig, hroom, hna, Addr.add_lit, hst, hsize, hm]
    refine ⟨_, _, hr, .inr ⟨g, cap, _, fz, by rw [List.length_append, List.length_replicate], hbg, setRow_heap w g cur _ E _ hg, fun k hk1 hk2 => hfz k (by rw [List.length_append] at hk1; omega) hk2, by rw [List.length_append, List.length_replicate]; exact hroom, hcm, ?_, ?_⟩, ⟨rfl, rfl, rfl, by simp, fun k _ hk => setRow_other w g k _ (fun e => hk (by rw [e]))⟩⟩
    · simp only [List.size_toArray, List.length_append, List.length_take, List.length_drop, Array.length_toList]
      omega
    · rw [htake, hnews, Lib.byteCells_append]
      have : (l ++ List.replicate m 0).length = (Lib.byteCells l ++ Lib.byteCells (List.replicate m 0)).length := by simp [Lib.byteCells_length]
      rw [this]
      exact List.take_left
  · have hm : ¬ m = 0 := by omega
    have holds : ∀ j u, (Lib.byteCells l)[j]? = some u → w.drew.cell? ((⟨g, 0, none⟩ : Addr).add j) = some u := by
      intro j u hj
      simp only [Lib.byteCells, List.getElem?_map, Option.map_eq_some_iff] at hj
      obtain ⟨x, hx, rfl⟩ := hj
      have hadd : (⟨g, 0, none⟩ : Addr).add j = ⟨g, j, none⟩ := by unfold Addr.add; split <;> simp_all
      rw [hadd]
      exact RowB.cells (B := B) (E := E) (v := .slice (some ⟨g, 0, none⟩) l.length cap) (.inr ⟨g, cap, cur, fz, rfl, hbg, hg, hfz, hnc, hcm, hcs, htake⟩) rfl j x hx
    have hfo := run_firstCells_some (P := P) w.drew 1 l.length ⟨g, 0, none⟩ l.length cap (Lib.byteCells l) (by rw [Lib.byteCells_length, Nat.mul_one]) holds
    have hn : ¬ (l.length + m ≤ cap) := hroom
    have h63' : ¬ (9223372036854775807 < ((l.length : Int) + (m : Int))) := by omega
    have hfit := growslice_fits (need := l.length + m) (old := cap) (bytes := i.bytes) (by omega) (by rw [hby]; omega)
    have h48' : ¬ (281474976710656 < Builtin.nextslicecap (l.length + m) cap * i.bytes) := by omega
    have hr : (Builtin.append_ #[t, ti] ty #[.slice (some ⟨g, 0, none⟩) l.length cap, .int kx m]).run P w = .ok (.slice (some ⟨w.heap.size, 0, none⟩) (l.length + m) (grownCap w (l.length + m) cap E)) (w.drew.alloc (.cells ((Lib.byteCells l).toArray ++ news.toArray ++ Builtin.zeroCells (Value.int .u8 0).cells (grownCap w (l.length + m) cap E - (l.length + m))) E)) := by
      simp [Builtin.append_, run_underlying ht, run_underlying hti, sizeOf, typeInfo, zeroValue, hi, hz, asInt, asIntOf, hw, hneg, hbig, hn, h63', h48', Question.forced, hfo, newRow, grownCap, hm, hna, hsize]
      congr 2
      apply Array.ext'
      simp [List.append_assoc]
    have hge := grownCap_ge w (l.length + m) cap E
    have hcm2 : grownCap w (l.length + m) cap E ≤ maxLen := grownCap_le_maxLen w (l.length + m) cap E hm63
    refine ⟨_, _, hr, .inr ⟨w.heap.size, _, _, (0, 0), by rw [List.length_append, List.length_replicate], hbase, heap_alloc_new w.drew _, fun _ _ _ _ => by omega, by rw [List.length_append, List.length_replicate]; exact hge, hcm2, ?_, ?_⟩, ⟨rfl, rfl, rfl, by simp, fun k hk _ => Lib.alloc_old w.drew _ k hk⟩⟩
    · simp only [Array.size_append, List.size_toArray, size_zeroCells, Lib.byteCells_length, hl]
      have : (Value.int IntKind.u8 0).cells.size = 1 := rfl
      rw [this]
      omega
    · simp only [Array.toList_append, List.append_assoc]
      rw [hnews, ← List.append_assoc, ← Lib.byteCells_append]
      have : (l ++ List.replicate m 0).length = (Lib.byteCells (l ++ List.replicate m 0)).length := by rw [Lib.byteCells_length]
      rw [this]
      exact List.take_left
end
end Go.Proofs.YtdcfonmjbelgbaaGreatDoor
end
section
namespace Go.Proofs.YtdcfonmjbelgbaaGreatDoor
open Go.RowKit Q Go.Proofs.YtdcfonmjbelgbaaGreatDoorW.PrintWords Go.Proofs.YtdcfonmjbelgbaaGreatDoorW.PrintLast Go.Proofs.YtdcfonmjbelgbaaGreatDoorW.PrintMore
attribute [local go_sem] Oper.semAt_some
section
variable {F : Fence} {n : Nat} {P : Program} {ops : Array Oper} {rest : List Oper} {o : Oper} {a : Act} {Q : Exit → Act → World → Prop} {W : World}
theorem nwpListIn_append (hgd : o.guard = none) (s x : Operand) (t u : TypeId) (hop : o.op = .call { callee := .builtin .append, args := #[s, x], argTypes := #[t, u] }) (v y v1 : Value) (w1 : World) (hs : a.eval s = v) (hx : a.eval x = y)
    (hrun : (Builtin.append_ #[t, u] o.type #[v, y]).run P W = .ok v1 w1) (h : wpListIn F n P ops Q rest (a.put o.dst v1) w1) : wpListIn F n P ops Q (o :: rest) a W := by
  refine wpListIn_plain hgd fun K hK => ?_
  unfold Oper.wpIn
  refine ⟨?_, ?_⟩
  · simp [Oper.about, hop, resolve, Target.leads, Sem.run_pure]
  · rw [Oper.semAt_plain F _ _ (by rw [hop]; intro c hc'; cases hc')]
    simp [execOp, hop, resolve, invoke, builtin, hs, hx, hrun, Result.andThen]
    exact hK _ _ h
theorem nappend_str (hgd : o.guard = none) (s x : Operand) (t e : TypeId) (hop : o.op = .call { callee := .builtin .append, args := #[s, x], argTypes := #[t, t] }) (hu : P.underlying t = some (.slice e)) (hi : (P.info? e).map (fun i => (i.zero, i.size, i.bytes)) = some (some (.string ⟨#[]⟩), 1, 16))
    (base : Nat) (v : Value) (L : List ByteArray) (hs : a.eval s = v) (p : ByteArray) (hx : a.eval x = .slice (some ⟨W.heap.size, 0, none⟩) 1 1) (HO : Kd.R Kd.string e W base (fun k => base ≤ k) v L) (hbase : base ≤ W.heap.size) (hl : (L.length + 1) * 16 ≤ 140737488355328)
    (h : ∀ v1 w1, Kd.R Kd.string e w1 base (fun k => base ≤ k) v1 (L ++ [p]) → W.grownBy w1 v.ownBlock → wpListIn F n P ops Q rest (a.put o.dst v1) w1) : wpListIn F n P ops Q (o :: rest) a (W.alloc (.cells #[.string p] e)) := by
  obtain ⟨i0, hi0, hzz⟩ := Option.map_eq_some_iff.1 hi
  simp only [Prod.mk.injEq] at hzz
  obtain ⟨hz0, hz1, hz2⟩ := hzz
  have hown := Kd.own_of_R (h1 := fun _ => rfl) HO
  refine wpListIn_append_own (W.alloc (.cells #[.string p] e)) hgd s x t hop base e i0 (.string ⟨#[]⟩) 1 16 hu hi0 hz0 hz1 hz2 rfl (by decide) v L.length (encs Value.string L) hs (hown.alloc _) ⟨W.heap.size, 0, none⟩ 1 1 [.string p] hx rfl
    (by
      intro j u hj
      match j, hj with
      | 0, hj =>
        cases hj
        exact (Blk.new W #[.string p] e).cell (i := 0) rfl) (fun u hu => by simp only [List.mem_singleton] at hu; subst hu; rfl) (by simp only [maxLen]; omega) hl (by simp; omega) ?_
  intro v' w' r1 r2 _
  have r1' : w'.ownsRow base e 1 v' (L ++ [p]).length (encs Value.string (L ++ [p])) := by
    rw [List.length_append, encs_append]
    exact r1
  exact h v' w' (Kd.R_of_own r1' (fun k hk => own_base r1' k hk)) (World.grownBy.trans (World.grownBy_alloc W _ v.ownBlock) r2)
end
def padN (s : List UInt8) : List UInt8 := s ++ List.replicate (384 - s.length) 0
def partN (s : List UInt8) (i : Nat) : ByteArray := B (((padN s).drop (64 * i)).take 64)
def shR (s : List UInt8) : List ByteArray × Int := if 384 < s.length then ([], 12) else ([0, 1, 2, 3, 4, 5].map (partN s), 0)
theorem padN_len (s : List UInt8) (h : s.length ≤ 384) : (padN s).length = 384 := by
  unfold padN
  rw [List.length_append, List.length_replicate]
  omega
theorem ninfoS : (Tryz.prog.info? 9).map (fun i => (i.zero, i.size, i.bytes)) = some (some (.string ⟨#[]⟩), 1, 16) := by kernel_rfl
theorem ninfoU0 : (Tryz.prog.info? 5).map (fun i => (i.zero, i.size, i.bytes)) = some (some (.int .u8 0), 1, 1) := by kernel_rfl
theorem ninfoU : ∃ i, Tryz.prog.info? 5 = some i ∧ i.zero = some (.int .u8 0) ∧ i.size = 1 ∧ i.bytes = 1 := by
  obtain ⟨i0, hi0, hzz⟩ := Option.map_eq_some_iff.1 ninfoU0
  simp only [Prod.mk.injEq] at hzz
  exact ⟨i0, hi0, hzz⟩
structure Sh (BL B1 B2 g cap : Nat) (s : List UInt8) (w0 : World) (v : Value) (L : List ByteArray) (W : World) : Prop where
  bl : Boxed W BL 27 v
  b1 : Boxed W B1 80 (.slice (some ⟨g, 0, none⟩) 384 cap)
  b2 : Boxed W B2 3 (.int .i64 64)
  ro : RowB w0.heap.size 5 (.slice (some ⟨g, 0, none⟩) (padN s).length cap) (padN s) W
  ol : Kd.R Kd.string 9 W w0.heap.size (fun k => w0.heap.size ≤ k) v L
  bw : Below w0.heap.size w0 W
  gL : w0.heap.size ≤ BL
theorem rowB_typed {B : Nat} {E : TypeId} {v : Value} {l : List UInt8} {W : World} (h : RowB B E v l W) : ∀ k, v.ownBlock = some k → ∃ cells fz, W.heap[k]? = some (.cells cells E fz) := by
  intro k hk
  rcases h with ⟨rfl, _⟩ | ⟨g, cap, cur, fz, rfl, _, hg, _⟩
  · cases hk
  · injection hk with hk
    exact ⟨cur, fz, by rw [← hk]; exact hg⟩
section
variable {BL B1 B2 g cap : Nat} {s : List UInt8} {w0 W W1 : World} {v : Value} {L : List ByteArray}
theorem Sh.below (h : Sh BL B1 B2 g cap s w0 v L W) (b : Below W.heap.size W W1) : Sh BL B1 B2 g cap s w0 v L W1 :=
  have hg := ngrown_below b none
  { h with
    bl := h.bl.kept hg (by simp)
    b1 := h.b1.kept hg (by simp)
    b2 := h.b2.kept hg (by simp)
    ro := h.ro.below b
    ol := Kd.R_below h.ol b
    bw := below2 h.bw h.bw.size b }
theorem Sh.calm (h : Sh BL B1 B2 g cap s w0 v L W) {row : Option Nat} (hg : W.grownBy W1 row) (hr : ∀ r, row = some r → w0.heap.size ≤ r ∧ ∃ o : Obj, W.heap[r]? = some o ∧ o.isCells = false) : Sh BL B1 B2 g cap s w0 v L W1 :=
  have hr2 := fun r e => (hr r e).2
  { h with
    bl := nblk_calm h.bl hg hr2
    b1 := nblk_calm h.b1 hg hr2
    b2 := nblk_calm h.b2 hg hr2
    ro := h.ro.grown hg (fun k hk e => by
      obtain ⟨cells, fz, hc⟩ := rowB_typed h.ro k hk
      obtain ⟨o, ho, hn⟩ := hr2 k e.symm
      rw [hc] at ho
      cases ho
      cases hn)
    ol := nR_calm h.ol hg hr2
    bw := h.bw.grown hg h.bw.size (fun k e => (hr k e).1) }
theorem Sh.put (h : Sh BL B1 B2 g cap s w0 v L W) {y : Value} {p : ByteArray} (hR : Kd.R Kd.string 9 W1 w0.heap.size (fun k => w0.heap.size ≤ k) y (L ++ [p])) (hg : W.grownBy W1 v.ownBlock) : Sh BL B1 B2 g cap s w0 y (L ++ [p]) (W1.setCell ⟨BL, 0, none⟩ y) :=
  have hr : ∀ k, v.ownBlock = some k → ∃ cells, W.heap[k]? = some (.cells cells 9 (0, 0)) := fun k e => Kd.R_typed h.ol k e
  have hbl := nbox_step h.bl hg _ hr (by decide)
  have g2 := ngrown_set W1 BL 0 y
  have q2 : ∀ k, some BL = some k → ∃ cells, W1.heap[k]? = some (.cells cells 27 (0, 0)) := fun k e => by injection e with e; subst e; exact ⟨_, hbl⟩
  have h1 : RowB w0.heap.size 5 (.slice (some ⟨g, 0, none⟩) (padN s).length cap) (padN s) W1 := h.ro.grown hg (fun k hk e => by
      obtain ⟨cells, fz, hc⟩ := rowB_typed h.ro k hk
      obtain ⟨c2, hc2⟩ := hr k e.symm
      rw [hc] at hc2
      injection hc2 with hc2
      injection hc2 with _ hc2
      exact absurd hc2 (by decide))
  { h with
    bl := hbl.set y
    b1 := nbox_step (nbox_step h.b1 hg _ hr (by decide)) g2 _ q2 (by decide)
    b2 := nbox_step (nbox_step h.b2 hg _ hr (by decide)) g2 _ q2 (by decide)
    ro := h1.grown g2 (fun k hk e => by
      obtain ⟨cells, fz, hc⟩ := rowB_typed h1 k hk
      obtain ⟨c2, hc2⟩ := q2 k e.symm
      rw [hc] at hc2
      injection hc2 with hc2
      injection hc2 with _ hc2
      exact absurd hc2 (by decide))
    ol := nR_step hR g2 _ q2 (fun q hq => by rcases List.mem_cons.1 hq with rfl | hq; decide; cases hq)
    bw := (h.bw.grown hg h.bw.size (fun k e => h.ol.1 k e)).setCell (p := ⟨BL, 0, none⟩) h.gL _ }
end
set_option maxRecDepth 100000 in
set_option maxHeartbeats 2000000 in
theorem nshards_calls (s : List UInt8) (w : World) : Calls Tryz.prog 26 #[.string (B s)] w fun e w' => ∃ v0 : Value, e = .returned (.tuple #[v0, .int .i64 (shR s).2]) ∧ Kd.R Kd.string 9 w' w.heap.size (fun _ => True) v0 (shR s).1 ∧ Below w.heap.size w w' := by
  refine (callsIn_wide (n := 5)).1 ?_
  refine callsIn_of_wp_marks Tryz.func26 rfl trivial ?_ rfl
  simp only [Tryz.ntmps26, List.size_toArray, List.length_cons, List.length_nil, Nat.reduceAdd, Nat.reduceSub, Array.replicate_succ, Array.replicate_zero, List.push_toArray, List.append_toArray, List.nil_append, List.cons_append]
  have hF : Fence.wide.fn 40 := trivial
  by_cases hs : 384 < s.length
  case pos =>
    have hs2 : 384 < (B s).size := by rw [B_size]; exact hs
    have hr : shR s = ([], 12) := if_pos hs
    gi_wp2
    refine ⟨_, results_tmp2 rfl _ _ _, _, by rw [hr]; rfl, by rw [hr]; exact Kd.R_nil _ _ _ _ _, Below.refl _ _⟩
  case neg =>
    have hs2 : ¬ 384 < (B s).size := by rw [B_size]; exact hs
    have hsl : s.length ≤ 384 := by omega
    have hr : shR s = ([0, 1, 2, 3, 4, 5].map (partN s), 0) := if_neg hs
    have hcv := fun (W : World) => Lib.run_convert_string_bytes (P := Tryz.prog) W 9 80 5 (B s) Tryz.underlying9 Tryz.underlying80 Tryz.underlying5
    obtain ⟨i0, hi0, hz0, hz1, hz2⟩ := ninfoU
    have hO0 := RowB.bytes (w.alloc (.cells #[.slice none 0 0] 27)) 5 (B s) (by rw [B_size]; unfold maxLen; omega)
    have hb0 := RowB.bytesBelow (w.alloc (.cells #[.slice none 0 0] 27)) 5 (B s)
    rw [B_data, B_size, World.size_alloc] at hO0
    obtain ⟨v1, w1, hrun, hO1, hg1⟩ := run_append_zerosB (P := Tryz.prog) _ (w.heap.size + 1) 80 3 80 5 i0 Tryz.underlying80 Tryz.underlying3 hi0 hz0 hz1 hz2 (w.heap.size + 1) _ s hO0 .i64 (384 - s.length) (by omega) (by rw [Lib.bytesWorld_size, World.size_alloc]; exact Nat.le_succ _)
    have hpad : s ++ List.replicate (384 - s.length) 0 = padN s := rfl
    rw [hpad] at hO1
    have hp384 := padN_len s hsl
    obtain ⟨g, cap, rfl, hge, hglt, hcap, hcm⟩ := hO1.ne (by intro e; rw [e] at hp384; cases hp384)
    have hB1 : Below w.heap.size w w1 := ((below_alloc (Below.refl _ w) _).trans (hb0.mono (by rw [World.size_alloc]; exact Nat.le_succ _))).grown hg1 (by rw [Lib.bytesWorld_size, World.size_alloc]; omega) (fun k e => by injection e with e; omega)
    have hL1 : Boxed w1 w.heap.size 27 (.slice none 0 0) := ((Boxed.new w 27 (.slice none 0 0)).kept (ngrown_below hb0 none) (by simp)).kept hg1 (fun e => by injection e with e; omega)
    have hi2 : ((384 - s.length : Nat) : Int) = 384 - ((B s).size : Int) := by rw [B_size]; omega
    rw [hi2, ← B_size s] at hrun
    rw [hp384] at hrun
    gi_wp2_with (first | (gi_at_builtin; refine nwpListIn_append rfl (.tmp 11) (.tmp 14) 80 3 rfl _ _ _ _ rfl rfl hrun ?_) | (gi_at_call 40; refine (chunk_calls g cap _ _).mono ?_; rintro e w' ⟨rfl, rfl⟩))
    have hbb : Below w1.heap.size w1 ((w1.alloc (.cells #[.slice (some ⟨g, 0, none⟩) 384 cap] 80)).alloc (.cells #[.int .i64 64] 3)) := below_alloc (below_alloc (Below.refl _ w1) _) _
    have hx2 := Boxed.new (w1.alloc (.cells #[.slice (some ⟨g, 0, none⟩) 384 cap] 80)) 3 (.int .i64 64)
    rw [World.size_alloc] at hx2
    have G : Sh w.heap.size w1.heap.size (w1.heap.size + 1) g cap s w (.slice none 0 0) [] ((w1.alloc (.cells #[.slice (some ⟨g, 0, none⟩) 384 cap] 80)).alloc (.cells #[.int .i64 64] 3)) :=
      ⟨hL1.kept (ngrown_below hbb none) (by simp), (Boxed.new w1 _ _).alloc _, hx2, (hO1.below hbb).raise (Nat.le_succ _), Kd.R_nil _ _ _ _ _, below2 hB1 hB1.size hbb, Nat.le_refl _⟩
    generalize (w1.alloc (.cells #[.slice (some ⟨g, 0, none⟩) 384 cap] 80)).alloc (.cells #[.int .i64 64] 3) = W0 at G ⊢
    have hn0 : w.heap.size ≤ W0.heap.size := G.bw.size
    refine wpIn_range_stops rfl (by decide) (gf := 58) (lb := #[.pointer (some ⟨w1.heap.size, 0, none⟩), .pointer (some ⟨w1.heap.size + 1, 0, none⟩)]) rfl trivial (enters_of Tryz.func58 (by kernel_rfl) rfl) (encs := fun x : Nat => #[.slice (some ⟨g, 64 * x, none⟩) 64 64]) (fun x _ => x < 6) (fun _ => False) (fun ys => ys = [0, 1, 2, 3, 4, 5]) (fun _ => False) 6 w.heap.size (fun W => W.cell? ⟨w1.heap.size, 0, none⟩ = some (.slice (some ⟨g, 0, none⟩) 384 cap) ∧ W.cell? ⟨w1.heap.size + 1, 0, none⟩ = some (.int .i64 64)) hn0 (fun _ => rfl) ?seq (fun pre W => ∃ v, Sh w.heap.size w1.heap.size (w1.heap.size + 1) g cap s w v (pre.map (partN s)) W) (fun _ _ => False) ?own (fun _ _ _ _ h _ _ => h) ?bx ⟨_, G⟩ (fun pre x a' W => ∃ v, x < 6 ∧ pre.length < 6 ∧ a' = { tmps := #[.string (B s), undef, .slice none 0 0, .int .i64 0, .pointer (some ⟨w.heap.size, 0, none⟩), .slice (some ⟨g, 0, none⟩) 384 cap, .slice (some ⟨g, 64 * x, none⟩) 64 64, .string (B s), .int .i64 ((B s).size : Int), .bool (decide (384 < ((B s).size : Int))), .string (B s), .slice (some ⟨w.heap.size + 1, 0, none⟩) (B s).size (grownCap (w.alloc (.cells #[.slice none 0 0] 27)) (B s).size 0 5), .string (B s), .int .i64 ((B s).size : Int), .int .i64 (384 - ((B s).size : Int)), .slice (some ⟨g, 0, none⟩) 384 cap, .slice (some ⟨g, 0, none⟩) 384 cap, .func (.func 58) #[] #[.pointer (some ⟨w1.heap.size, 0, none⟩), .pointer (some ⟨w1.heap.size + 1, 0, none⟩)], .slice (some ⟨g, 64 * x, none⟩) 64 64, undef, undef, undef, undef, undef, undef], defers := [] } ∧ Sh w.heap.size w1.heap.size (w1.heap.size + 1) g cap s w v (pre.map (partN s)) W) ?ax ?assign ?body ?done (fun _ _ _ _ hf _ _ => hf.elim)
    case seq =>
      intro lq J Jx W hW hJ hJx hBx hY h0
      exact (chunk_in _ (by decide) lq w1.heap.size (w1.heap.size + 1) g cap (by rw [← hp384]; exact hcap) w J Jx hJ hBx hY W (below2 G.bw hn0 hW) h0).mono (fun e W' h => ⟨h.1, h.2.imp id (fun ⟨ys, hf, _⟩ => hf.elim)⟩)
    case own =>
      rintro pre X Y row ⟨v, h⟩ hg hr
      exact ⟨v, h.calm hg (fun r e => ⟨Nat.le_trans hn0 (hr r e).1, (hr r e).2⟩)⟩
    case bx =>
      rintro ys X ⟨v, h⟩
      exact ⟨h.b1.cell, h.b2.cell⟩
    case ax =>
      rintro pre x a' _ X Y row ⟨v, h1, h2, h3, h4⟩ hg hr
      exact ⟨v, h1, h2, h3, h4.calm hg (fun r e => ⟨Nat.le_trans hn0 (hr r e).1, (hr r e).2⟩)⟩
    case assign =>
      rintro lq pre x W K ⟨v, HG⟩ hv hN hK
      gi_wp2
      exact hK _ _ ⟨Nat.le_refl _, fun _ _ _ hk _ => hk⟩ (Below.refl _ _) ⟨v, hv, hN, rfl, HG⟩
    case body =>
      rintro lq pre x a' W ⟨v, hx, hpl, rfl, HG⟩
      have hc := HG.bl.cell
      have hl64 : (((padN s).drop (64 * x)).take 64).length = 64 := by rw [List.length_take, List.length_drop, hp384]; omega
      have hcv2 := run_string_bytes (P := Tryz.prog) W 80 9 5 Tryz.underlying80 Tryz.underlying5 Tryz.underlying9 g (64 * x) 64 (((padN s).drop (64 * x)).take 64) (fun j y hj => by
        have h1 : (padN s)[64 * x + j]? = some y := by
          rw [List.getElem?_take] at hj
          split at hj
          · rw [List.getElem?_drop] at hj; exact hj
          · cases hj
        exact HG.ro.cells (g := g) rfl _ _ h1)
      rw [hl64] at hcv2
      replace hcv2 : (convert 80 9 (.slice (some ⟨g, 64 * x, none⟩) 64 64)).run Tryz.prog W = .ok (.string (partN s x)) W := hcv2
      clear hcv
      gi_wp2_with (gi_at_builtin; refine nappend_str rfl (.tmp 19) (.tmp 22) 27 9 rfl Tryz.underlying27 ninfoS w.heap.size v (pre.map (partN s)) rfl (partN s x) rfl HG.ol HG.bw.size (by rw [List.length_map]; omega) ?_; intro y1 w5 hR hg5; obtain ⟨A1, n1, c1, rfl⟩ : ∃ A1 n1 c1, y1 = .slice A1 n1 c1 := (by obtain ⟨A1, c1, e⟩ := Kd.R_slice hR; exact ⟨A1, _, c1, e⟩); have hbl5 : Boxed w5 w.heap.size 27 v := nbox_step HG.bl hg5 _ (fun k e => Kd.R_typed HG.ol k e) (by decide); have hc5 := hbl5.cell; have hf5 := hbl5.frozen)
      have hfin := HG.put hR hg5
      have bk : KeepsFrom W0.heap.size W (w5.setCell ⟨w.heap.size, 0, none⟩ (.slice A1 n1 c1)) := (nkeeps_typed hg5 (fun k e => Kd.R_typed HG.ol k e)).trans ((KeepsOthers.setCell w5 ⟨w.heap.size, 0, none⟩ (.slice A1 n1 c1)).from W0.heap.size)
      exact ⟨bk, nbelow_between HG.bw hfin.bw bk.size, .slice A1 n1 c1, hfin⟩
    case done =>
      rintro D ys W hD hS ⟨v, HG⟩ hK
      subst hS
      have hc := HG.bl.cell
      gi_wp2
      refine ⟨by simp, .inl ⟨_, _, rfl, run_takeDeferred hK, ?_⟩⟩
      have hfin := HG.calm (grownBy_putObj' W D (.deferred none)) (fun r e' => by cases e'; exact ⟨Nat.le_trans hn0 hD, _, hK, rfl⟩)
      refine ⟨_, results_tmp2 rfl _ _ _, v, by rw [hr]; rfl, ?_, hfin.bw⟩
      rw [hr]
      exact Kd.R_mono hfin.ol (fun _ _ => trivial)
def needle_Shards.f (a0 : ByteArray) : Option (List ByteArray × Int) := some (shR a0.data.toList)
theorem needle_Shards.calls (a0 : ByteArray) (r1 : List ByteArray) (r2 : Int) (w : World) (h : needle_Shards.f a0 = some (r1, r2)) :
    Calls Tryz.prog 26 #[.string a0] w fun e w' => ∃ v0_ : Value, e = .returned (.tuple #[v0_, .int .i64 r2]) ∧ Kd.R Kd.string 9 w' w.heap.size (fun _ => True) v0_ r1 ∧ Below w.heap.size w w' := by
  have e := Option.some.inj h
  have := nshards_calls a0.data.toList w
  rw [B_eta, e] at this
  exact this
end Go.Proofs.YtdcfonmjbelgbaaGreatDoor
end
section
namespace Go.Proofs.YtdcfonmjbelgbaaGreatDoor.Q
open Go.RowKit Go.Proofs.YtdcfonmjbelgbaaGreatDoorW.PrintWords Go.Proofs.YtdcfonmjbelgbaaGreatDoorW.PrintLast Go.Proofs.YtdcfonmjbelgbaaGreatDoorW.PrintMore
attribute [local go_sem] max2_int min2_int max_two min_two max_three min_three max_four min_four   -- for this text's walks alone
set_option linter.unusedVariables false
set_option linter.unusedSimpArgs false
def stripe_good.f (a0_0 : Int) (a0_1 : Int) (a0_2 : Int) (l0_3 : List (S59)) (a1 : Int) (a2 : ByteArray) : Option (ByteArray × Bool) := (sector_Mine.f a2 a0_0 a0_1 a0_2 l0_3 a1).bind fun bt143 => (if bt143.2 = 0 then (some (bt143.1, ((bt143.1.size : Int) == 64))) else (some (bt143.1, false)))
set_option maxHeartbeats 8000000 in
set_option maxRecDepth 100000 in
theorem stripe_good.calls (a0_0 : Int) (a0_1 : Int) (a0_2 : Int) (A0_3 : Option Addr) (c0_3 : Nat) (l0_3 : List (S59)) (a1 : Int) (a2 : ByteArray) (r1 : ByteArray) (r2 : Bool) (w : World) (hr0_3 : Kd.C k59 w A0_3 l0_3.length l0_3) (hc0_3 : l0_3.length ≤ c0_3) (h : stripe_good.f a0_0 a0_1 a0_2 l0_3 a1 a2 = some (r1, r2)) :
    Calls Tryz.prog 33 #[.agg #[.int .i64 a0_0, .int .i64 a0_1, .int .i64 a0_2, .slice A0_3 l0_3.length c0_3], .int .i64 a1, .string a2] w fun e w' => e = .returned (.tuple #[.string r1, .bool r2]) ∧ Below w.heap.size w w' := by
  have hu24 := Tryz.underlying24
  have HR0_3 := Aside0.mk hr0_3
  have HC0_3 := Aside0.mk hc0_3
  clear hr0_3 hc0_3
  have HB := Aside0.mk (Below.refl w.heap.size w)
  have H : ((sector_Mine.f a2 a0_0 a0_1 a0_2 l0_3 a1).bind fun bt143 => (if bt143.2 = 0 then (some (bt143.1, ((bt143.1.size : Int) == 64))) else (some (bt143.1, false)))) = some (r1, r2) := h
  clear h
  replace H := Option.bind_eq_some_iff.mp H
  obtain ⟨⟨t143, t144⟩, A40, H⟩ := H
  replace H : (if t144 = 0 then (some (t143, ((t143.size : Int) == 64))) else (some (t143, false))) = some (r1, r2) := H
  have A4 := Aside0.mk A40
  clear A40
  by_cases c5 : t144 = 0
  · rw [if_pos c5] at H
    have c5b0 : (t144 == 0) = true := beq_iff_eq.mpr c5
    have c5b1 : (t144 != 0) = false := bne_eq_false_iff_eq.mpr c5
    clear c5
    simp only [Option.some.injEq, Prod.mk.injEq] at H
    obtain ⟨rfl, rfl⟩ := H
    go_enter Tryz.func33, Tryz.ntmps33
    go_wp2_with (first | ((with_reducible refine gate_dst (N := 3) rfl ?_); (try (refine gate_guard (by rfl) ?_; dsimp only)); refine box_event ?hg (N := 3) ?hd (cs := #[.int .i64 a0_0, .int .i64 a0_1, .int .i64 a0_2, .slice A0_3 l0_3.length c0_3]) (t := 24) ?hr ?_; (case hd => rfl); (case hg => rfl); (case hr => first | (go_simp; done) | (go_simp; rfl)); intro gb142 hg w6 hbox hb; have n0_ := Aside0.mk (below_step (by repeat (first | (with_reducible first | exact HB.out | apply below_alloc | apply pw_below_drewN | apply below_drew1) | exact HB.out)) hb); have n1_ := Aside0.mk (hbox); have n2_ := Aside0.mk ((by rw [hg]; exact (below_size (by repeat (first | (with_reducible first | exact HB.out | apply below_alloc | apply pw_below_drewN | apply below_drew1) | exact HB.out))) : w.heap.size ≤ gb142)); have n3_ := Aside0.mk ((by rw [hg]; exact (below_size (by repeat (first | (with_reducible first | exact HB.out | apply below_alloc | apply pw_below_drewN | apply below_drew1) | exact HB.out))) : w.heap.size ≤ gb142)); clear HB; have HB := n0_; have BK142 := n1_; have GW142 := n2_; have GE142 := n3_; clear n0_ n1_ n2_ n3_; clear hb hbox hg; have hcz7_0 : w6.cell? ⟨gb142, 0, none⟩ = some (.int .i64 a0_0) := (blk_cell BK142.out 0).trans rfl; have hcz7_1 : w6.cell? ⟨gb142, 1, none⟩ = some (.int .i64 a0_1) := (blk_cell BK142.out 1).trans rfl; have hcz7_2 : w6.cell? ⟨gb142, 2, none⟩ = some (.int .i64 a0_2) := (blk_cell BK142.out 2).trans rfl; have hcz7_3 : w6.cell? ⟨gb142, 3, none⟩ = some (.slice A0_3 l0_3.length c0_3) := (blk_cell BK142.out 3).trans rfl; have hfz7_0 := blk_frozen BK142.out 0; have hfz7_1 := blk_frozen BK142.out 1; have hfz7_2 := blk_frozen BK142.out 2; have hfz7_3 := blk_frozen BK142.out 3) | ((with_reducible refine gate_callee (f := 54) rfl ?_); refine goesL_ (some 14) rfl rfl Tryz.func54 (by kernel_rfl) rfl #[.string a2, .agg #[.int .i64 a0_0, .int .i64 a0_1, .int .i64 a0_2, .slice A0_3 l0_3.length c0_3], .int .i64 a1] rfl (by (try simp only [List.map_toArray, List.map_cons, List.map_nil]); first | done | rfl | (simp only [List.length_drop, List.length_take]; rfl)) ?_; (with_reducible refine (sector_Mine.calls a2 a0_0 a0_1 a0_2 _ _ l0_3 a1 t143 t144 _ ?side1 ?side2 A4.out).mono ?_); (case side1 => repeat (first | exact (Kd.C_below HR0_3.out HB.out) | (with_reducible refine Kd.C_alloc ?_ _) | (with_reducible refine Kd.C_drewN ?_ _) | (with_reducible refine Kd.C_drew ?_))); (case side2 => exact HC0_3.out); rintro e w8 ⟨rfl, hb⟩; refine ⟨_, rfl, ?_⟩; have n0_ := Aside0.mk (blk_below (g := gb142) (o := .cells #[.int .i64 a0_0, .int .i64 a0_1, .int .i64 a0_2, .slice A0_3 l0_3.length c0_3] 24 (0, 0)) (by (with_reducible repeat (first | refine blk_drewN ?_ _ | refine blk_drew ?_ | refine blk_alloc ?_ _)); exact BK142.out) hb); have n1_ := Aside0.mk (below_step (by repeat (first | (with_reducible first | exact HB.out | apply below_alloc | apply pw_below_drewN | apply below_drew1 | refine below_set ?_ GE142.out) | exact HB.out)) hb); clear BK142; clear HB; have BK142 := n0_; have HB := n1_; clear n0_ n1_; (try clear hb); (try clear hb2); (try clear hk); (try clear hi)))
    go_ret2
    exact ⟨by first | rfl | (simp [errW_none, errW_some] <;> rfl) | (simp [*, errW_none, errW_some] <;> rfl), by repeat (first | (with_reducible first | exact HB.out | apply below_alloc | apply pw_below_drewN | apply below_drew1 | refine below_set ?_ GE142.out) | exact HB.out)⟩
  · rw [if_neg c5] at H
    have c5b0 : (t144 == 0) = false := beq_eq_false_iff_ne.mpr c5
    have c5b1 : (t144 != 0) = true := bne_iff_ne.mpr c5
    simp only [Option.some.injEq, Prod.mk.injEq] at H
    obtain ⟨rfl, rfl⟩ := H
    go_enter Tryz.func33, Tryz.ntmps33
    go_wp2_with (first | ((with_reducible refine gate_dst (N := 3) rfl ?_); (try (refine gate_guard (by rfl) ?_; dsimp only)); refine box_event ?hg (N := 3) ?hd (cs := #[.int .i64 a0_0, .int .i64 a0_1, .int .i64 a0_2, .slice A0_3 l0_3.length c0_3]) (t := 24) ?hr ?_; (case hd => rfl); (case hg => rfl); (case hr => first | (go_simp; done) | (go_simp; rfl)); intro gb142 hg w9 hbox hb; have n0_ := Aside0.mk (below_step (by repeat (first | (with_reducible first | exact HB.out | apply below_alloc | apply pw_below_drewN | apply below_drew1) | exact HB.out)) hb); have n1_ := Aside0.mk (hbox); have n2_ := Aside0.mk ((by rw [hg]; exact (below_size (by repeat (first | (with_reducible first | exact HB.out | apply below_alloc | apply pw_below_drewN | apply below_drew1) | exact HB.out))) : w.heap.size ≤ gb142)); have n3_ := Aside0.mk ((by rw [hg]; exact (below_size (by repeat (first | (with_reducible first | exact HB.out | apply below_alloc | apply pw_below_drewN | apply below_drew1) | exact HB.out))) : w.heap.size ≤ gb142)); clear HB; have HB := n0_; have BK142 := n1_; have GW142 := n2_; have GE142 := n3_; clear n0_ n1_ n2_ n3_; clear hb hbox hg; have hcz10_0 : w9.cell? ⟨gb142, 0, none⟩ = some (.int .i64 a0_0) := (blk_cell BK142.out 0).trans rfl; have hcz10_1 : w9.cell? ⟨gb142, 1, none⟩ = some (.int .i64 a0_1) := (blk_cell BK142.out 1).trans rfl; have hcz10_2 : w9.cell? ⟨gb142, 2, none⟩ = some (.int .i64 a0_2) := (blk_cell BK142.out 2).trans rfl; have hcz10_3 : w9.cell? ⟨gb142, 3, none⟩ = some (.slice A0_3 l0_3.length c0_3) := (blk_cell BK142.out 3).trans rfl; have hfz10_0 := blk_frozen BK142.out 0; have hfz10_1 := blk_frozen BK142.out 1; have hfz10_2 := blk_frozen BK142.out 2; have hfz10_3 := blk_frozen BK142.out 3) | ((with_reducible refine gate_callee (f := 54) rfl ?_); refine goesL_ (some 14) rfl rfl Tryz.func54 (by kernel_rfl) rfl #[.string a2, .agg #[.int .i64 a0_0, .int .i64 a0_1, .int .i64 a0_2, .slice A0_3 l0_3.length c0_3], .int .i64 a1] rfl (by (try simp only [List.map_toArray, List.map_cons, List.map_nil]); first | done | rfl | (simp only [List.length_drop, List.length_take]; rfl)) ?_; (with_reducible refine (sector_Mine.calls a2 a0_0 a0_1 a0_2 _ _ l0_3 a1 t143 t144 _ ?side1 ?side2 A4.out).mono ?_); (case side1 => repeat (first | exact (Kd.C_below HR0_3.out HB.out) | (with_reducible refine Kd.C_alloc ?_ _) | (with_reducible refine Kd.C_drewN ?_ _) | (with_reducible refine Kd.C_drew ?_))); (case side2 => exact HC0_3.out); rintro e w11 ⟨rfl, hb⟩; refine ⟨_, rfl, ?_⟩; have n0_ := Aside0.mk (blk_below (g := gb142) (o := .cells #[.int .i64 a0_0, .int .i64 a0_1, .int .i64 a0_2, .slice A0_3 l0_3.length c0_3] 24 (0, 0)) (by (with_reducible repeat (first | refine blk_drewN ?_ _ | refine blk_drew ?_ | refine blk_alloc ?_ _)); exact BK142.out) hb); have n1_ := Aside0.mk (below_step (by repeat (first | (with_reducible first | exact HB.out | apply below_alloc | apply pw_below_drewN | apply below_drew1 | refine below_set ?_ GE142.out) | exact HB.out)) hb); clear BK142; clear HB; have BK142 := n0_; have HB := n1_; clear n0_ n1_; (try clear hb); (try clear hb2); (try clear hk); (try clear hi)))
    go_ret2
    exact ⟨by first | rfl | (simp [errW_none, errW_some] <;> rfl) | (simp [*, errW_none, errW_some] <;> rfl), by repeat (first | (with_reducible first | exact HB.out | apply below_alloc | apply pw_below_drewN | apply below_drew1 | refine below_set ?_ GE142.out) | exact HB.out)⟩
end Go.Proofs.YtdcfonmjbelgbaaGreatDoor.Q
end
section
namespace Go.Proofs.YtdcfonmjbelgbaaGreatDoor
open Go.RowKit Go.Maps Q Go.Proofs.YtdcfonmjbelgbaaGreatDoorW.PrintWords Go.Proofs.YtdcfonmjbelgbaaGreatDoorW.PrintLast
theorem vite_b (c : Prop) [Decidable c] (y : Bool) : (if c then some y else some false) = some (decide c && y) := by
  by_cases h : c <;> simp [h]
theorem vdrop_cons (l : List S59) (i : Nat) (h : i < l.length) : l.drop i = rd_T59 l i :: l.drop (i + 1) := by
  unfold rd_T59
  rw [List.drop_eq_getElem_cons h]
  simp [List.getD, List.getElem?_eq_getElem h]
theorem vwrap_k (i : Nat) (h : i ≤ 140737488355328) : wrap64 ((i : Int) + 1) = ((i + 1 : Nat) : Int) := by unfold wrap64; omega
theorem vis_f (x : S59) : sluicegateref10_Is.f x.f0 x.f1 = some (locOk x) := by
  unfold sluicegateref10_Is.f locOk inB
  simp only [vite_b]
  rw [Option.some.injEq, Bool.eq_iff_iff]
  simp only [Bool.and_eq_true, decide_eq_true_eq]
  omega
theorem vnum_f (n : Int) : sluicegateref11_number.f n = some (inB n 1099511627776) := by
  unfold sluicegateref11_number.f inB
  rw [vite_b]
def vdis : List Int → List Int → Bool
  | _, [] => true
  | s, x :: r => !(s.contains x) && vdis (s ++ [x]) r
theorem vany_same (x : Int) : ∀ s : List Int, (s.map (Lit.int .i64)).any (fun y => y.sameKey (.int .i64 x)) = s.contains x
  | [] => rfl
  | a :: r => by
    rw [List.map_cons, List.any_cons, List.contains_cons, vany_same x r]
    congr 1
    show decide (IntKind.i64 = IntKind.i64 ∧ a = x) = (x == a)
    by_cases e : a = x
    · subst e; simp
    · have e' : ¬ x = a := fun h => e h.symm
      simp [e, e']
theorem vfold_dis : ∀ (xs s : List Int), ((xs.map (Lit.int .i64)).foldl addKey (s.map (Lit.int .i64))).length ≤ s.length + xs.length ∧ (((xs.map (Lit.int .i64)).foldl addKey (s.map (Lit.int .i64))).length = s.length + xs.length ↔ vdis s xs = true)
  | [], s => by simp [vdis]
  | x :: r, s => by
    have hk : addKey (s.map (Lit.int .i64)) (.int .i64 x) = if s.contains x then s.map (Lit.int .i64) else (s ++ [x]).map (Lit.int .i64) := by
      unfold addKey
      rw [vany_same]
      cases s.contains x <;> simp
    rw [List.map_cons, List.foldl_cons, hk]
    unfold vdis
    cases hc : s.contains x with
    | true =>
      have ih := vfold_dis r s
      simp only [if_true, Bool.not_true, Bool.false_and, List.length_cons]
      refine ⟨by omega, ?_⟩
      constructor
      · intro h; omega
      · intro h; cases h
    | false =>
      have ih := vfold_dis r (s ++ [x])
      simp only [Bool.false_eq_true, if_false, Bool.not_false, Bool.true_and, List.length_cons]
      rw [List.length_append, List.length_singleton] at ih
      refine ⟨by omega, ?_⟩
      rw [← ih.2]
      omega
theorem vsize_Sv (l : List S59) : (Maps.size (Sv l l.length) = l.length) ↔ vdis [] (l.map (·.f0)) = true := by
  have h : keysL l l.length = (l.map (·.f0)).map (Lit.int .i64) := by
    unfold keysL
    rw [List.take_of_length_le (Nat.le_refl _), List.map_map]
    rfl
  unfold Sv
  rw [h, size_setOf _ _ (fun x hx => by obtain ⟨_, _, rfl⟩ := List.mem_map.1 hx; trivial)]
  have := (vfold_dis (l.map (·.f0)) []).2
  simp only [List.map_nil, List.length_nil, Nat.zero_add, List.length_map] at this
  exact this
theorem vrd_map (l : List S59) (i : Nat) (h : i < l.length) : (l.map (·.f0))[i]'(by rw [List.length_map]; exact h) = (rd_T59 l i).f0 := by
  unfold rd_T59
  simp [List.getD, List.getElem?_eq_getElem h]
def vgoodV (l : List S59) (s : List Int) : List S59 → Bool
  | [] => true
  | x :: r => locOk x && (!(s.contains x.f0) && vgoodV l (s ++ [x.f0]) r)
theorem vgoodV_eq (l : List S59) : ∀ (r : List S59) (s : List Int), vgoodV l s r = (r.all locOk && vdis s (r.map (·.f0)))
  | [], _ => rfl
  | x :: r, s => by
    have hd : vdis s ((x :: r).map (·.f0)) = (!(s.contains x.f0) && vdis (s ++ [x.f0]) (r.map (·.f0))) := rfl
    have hg : vgoodV l s (x :: r) = (locOk x && (!(s.contains x.f0) && vgoodV l (s ++ [x.f0]) r)) := rfl
    rw [hd, hg, vgoodV_eq l r, List.all_cons]
    generalize vdis (s ++ [x.f0]) (r.map (·.f0)) = q
    generalize s.contains x.f0 = c
    generalize r.all locOk = e
    cases locOk x <;> cases c <;> cases e <;> rfl
theorem vinner (l : List S59) (h9 : l.length = 9) (V G N : Int) (i : Nat) (hi : i < 9) (d : Nat) : ∀ (j k : Nat), i - j = d → j ≤ i → d < k → ∃ k', k' + d + 1 = k ∧ sluicegateref11_Volume.l1 k (i : Int) (j : Int) V G N l = if (((l.map (·.f0)).take i).drop j).contains (rd_T59 l i).f0 = true then some false else sluicegateref11_Volume.l0 k' ((i + 1 : Nat) : Int) V G N l := by
  induction d with
  | zero =>
    intro j k hd hj hk
    obtain ⟨k, rfl⟩ : ∃ m, k = m + 1 := ⟨k - 1, by omega⟩
    refine ⟨k, by omega, ?_⟩
    have : j = i := by omega
    subst this
    simp only [sluicegateref11_Volume.l1]
    rw [if_neg (by omega), vwrap_k j (by omega), List.drop_of_length_le (by rw [List.length_take]; omega)]
    simp
  | succ d ih =>
    intro j k hd hj hk
    obtain ⟨k, rfl⟩ : ∃ m, k = m + 1 := ⟨k - 1, by omega⟩
    obtain ⟨k', hk', e⟩ := ih (j + 1) k (by omega) (by omega) (by omega)
    refine ⟨k', by omega, ?_⟩
    simp only [sluicegateref11_Volume.l1]
    rw [if_pos (by omega), if_pos (by omega), if_pos (by omega), if_pos (by omega), if_pos (by omega), vwrap_k j (by omega), e]
    have hjl : j < ((l.map (·.f0)).take i).length := by rw [List.length_take, List.length_map]; omega
    have hjv : ((l.map (·.f0)).take i)[j] = (rd_T59 l j).f0 := by
      rw [List.getElem_take]
      exact vrd_map l j (by omega)
    rw [List.drop_eq_getElem_cons hjl, List.contains_cons, hjv]
    by_cases h : (rd_T59 l j).f0 = (rd_T59 l i).f0
    · rw [if_pos h, if_pos (by rw [h]; simp)]
    · rw [if_neg h]
      have : ((rd_T59 l i).f0 == (rd_T59 l j).f0) = false := by
        rw [beq_eq_false_iff_ne]
        exact fun e => h e.symm
      rw [this, Bool.false_or]
theorem vouter (l : List S59) (h9 : l.length = 9) (V G N : Int) (d : Nat) : ∀ (i k : Nat), 9 - i = d → i ≤ 9 → 12 * d < k → sluicegateref11_Volume.l0 k (i : Int) V G N l = some (vgoodV l ((l.map (·.f0)).take i) (l.drop i)) := by
  induction d with
  | zero =>
    intro i k hd hi hk
    obtain ⟨k, rfl⟩ : ∃ m, k = m + 1 := ⟨k - 1, by omega⟩
    have : i = 9 := by omega
    subst this
    simp only [sluicegateref11_Volume.l0]
    rw [if_neg (by omega), List.drop_of_length_le (by omega)]
    rfl
  | succ d ih =>
    intro i k hd hi hk
    obtain ⟨k, rfl⟩ : ∃ m, k = m + 1 := ⟨k - 1, by omega⟩
    have hil : i < l.length := by omega
    simp only [sluicegateref11_Volume.l0]
    rw [if_pos (by omega), if_pos (by omega), if_pos (by omega), vis_f, vdrop_cons l i hil]
    unfold vgoodV
    simp only [Option.bind_some]
    cases hok : locOk (rd_T59 l i) with
    | false => rfl
    | true =>
      rw [if_pos rfl, Bool.true_and]
      obtain ⟨k', hk', e⟩ := vinner l h9 V G N i (by omega) i 0 k (by omega) (by omega) (by omega)
      rw [show ((0 : Nat) : Int) = 0 from rfl] at e
      rw [e, List.drop_zero]
      cases hc : ((l.map (·.f0)).take i).contains (rd_T59 l i).f0 with
      | true => rfl
      | false =>
        rw [if_neg (by decide), ih (i + 1) k' (by omega) (by omega) (by omega)]
        have ht : (l.map (·.f0)).take (i + 1) = (l.map (·.f0)).take i ++ [(rd_T59 l i).f0] := by
          rw [List.take_add_one, List.getElem?_eq_getElem (by rw [List.length_map]; exact hil), vrd_map l i hil]
          rfl
        rw [ht]
        rfl
theorem vrvol_f (V G N : Int) (l : List S59) (k : Nat) (hk : 120 ≤ k) : sluicegateref11_Volume.f k V G N l = some (volP V G N l) := by
  obtain ⟨k, rfl⟩ : ∃ m, k = m + 1 := ⟨k - 1, by omega⟩
  unfold sluicegateref11_Volume.f volP
  rw [vnum_f, vnum_f]
  have hbad : sluicegateref11_Volume.j0 (k + 1) true V G N l = some false := by simp [sluicegateref11_Volume.j0]
  simp only [Option.bind_some]
  cases hv : inB V 1099511627776 with
  | false => rw [if_neg (by decide), hbad]; simp
  | true =>
    cases hg : inB G 1099511627776 with
    | false => rw [if_pos rfl, if_neg (by decide), hbad]; simp
    | true =>
      rw [if_pos rfl, if_pos rfl]
      by_cases h1 : N < 0
      · rw [if_pos h1, hbad]
        have : inB N 384 = false := by unfold inB; rw [decide_eq_false (p := 0 ≤ N) (by omega)]; rfl
        simp [this]
      · rw [if_neg h1]
        by_cases h2 : N > 384
        · rw [if_pos h2, hbad]
          have : inB N 384 = false := by unfold inB; rw [decide_eq_false (p := N ≤ 384) (by omega)]; simp
          simp [this]
        · rw [if_neg h2]
          have h3 : inB N 384 = true := by unfold inB; rw [decide_eq_true (p := 0 ≤ N) (by omega), decide_eq_true (p := N ≤ 384) (by omega)]; rfl
          by_cases h9 : (l.length : Int) = 9
          · have : ((l.length : Int) != 9) = false := by simp [h9]
            rw [this]
            have h9' : l.length = 9 := by omega
            have ho := vouter l h9' V G N 9 0 k rfl (by omega) (by omega)
            simp only [sluicegateref11_Volume.j0]
            rw [if_neg (by decide), show (0 : Int) = ((0 : Nat) : Int) from rfl, ho, List.take_zero, List.drop_zero, vgoodV_eq, h3, decide_eq_true h9]
            have hs := vsize_Sv l
            rw [h9'] at hs
            congr 2
            simp only [Bool.true_and]
            rw [Bool.eq_iff_iff, ← hs, decide_eq_true_eq, h9']
            omega
          · have : ((l.length : Int) != 9) = true := by simpa using h9
            rw [this, hbad, decide_eq_false h9]
            simp
end Go.Proofs.YtdcfonmjbelgbaaGreatDoor
end
section
namespace Go.Proofs.YtdcfonmjbelgbaaGreatDoor
end Go.Proofs.YtdcfonmjbelgbaaGreatDoor
end
section
namespace Go.Proofs.YtdcfonmjbelgbaaGreatDoor.Q
end Go.Proofs.YtdcfonmjbelgbaaGreatDoor.Q
end
