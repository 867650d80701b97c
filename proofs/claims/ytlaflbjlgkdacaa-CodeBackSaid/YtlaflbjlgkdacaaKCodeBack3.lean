/- Lemmas for the law CodeBack, merged out of several texts and cut down to what it names, by a program of this session (some of the first ones are of the words that print.sh wrote for this claim). -/
import Derived.Test.YtlaflbjlgkdacaaProg
import Derived.Laws.Tables
import Derived.Lib.FrozenHead2
import Derived.Test.YtlaflbjlgkdacaaKCodeBack1
import Derived.Test.YtlaflbjlgkdacaaKCodeBack2
set_option linter.unusedVariables false
set_option linter.unusedSimpArgs false
section
namespace Go.Proofs.Ytlaflbjlgkdacaa
open Go.RowKit Q Go.Proofs.YtlaflbjlgkdacaaW.PrintWords Go.Proofs.YtlaflbjlgkdacaaW.PrintLast Go.Proofs.YtlaflbjlgkdacaaW.PrintMore
attribute [local go_sem] Oper.semAt_some
theorem there_calls (A : Option Addr) (m c : Nat) (w : World) (n : Nat) : CallsIn Fence.wide n Try.prog 28 #[.slice A m c] w fun e w' => e = .returned (.func (.func 35) #[] #[.pointer (some ⟨w.heap.size, 0, none⟩)]) ∧ w' = w.alloc (.cells #[.slice A m c] 38) := by
  refine callsIn_of_wp Try.func28 rfl trivial ?_ rfl
  simp only [Try.ntmps28, List.size_toArray, List.length_cons, List.length_nil, Nat.reduceAdd, Nat.reduceSub, Array.replicate_succ, Array.replicate_zero, List.push_toArray, List.append_toArray, List.nil_append, List.cons_append]
  gi_wp2
  go_ret
  exact ⟨rfl, rfl⟩
theorem Fi.start {g : Nat} {S : Value} {w : World} {x : Value} : Fi g w.heap.size (w.heap.size + 1) (w.heap.size + 1 + 1) (w.heap.size + 1 + 1 + 1) S w (.slice none 0 0) (.slice none 0 0) (.slice none 0 0) (.slice none 0 0) [] [] [] (((((w.alloc (.cells #[.pointer (some ⟨g, 0, none⟩)] 22)).alloc (.cells #[S] 30)).alloc (.cells #[.slice none 0 0] 30)).alloc (.cells #[.slice none 0 0] 54)).alloc (.cells #[x] 38)) := by
  have e1 : (w.alloc (.cells #[.pointer (some ⟨g, 0, none⟩)] 22)).heap.size = w.heap.size + 1 := by simp
  have e2 : ((w.alloc (.cells #[.pointer (some ⟨g, 0, none⟩)] 22)).alloc (.cells #[S] 30)).heap.size = w.heap.size + 1 + 1 := by simp
  have e3 : (((w.alloc (.cells #[.pointer (some ⟨g, 0, none⟩)] 22)).alloc (.cells #[S] 30)).alloc (.cells #[.slice none 0 0] 30)).heap.size = w.heap.size + 1 + 1 + 1 := by simp
  have b1 := Boxed.new w 22 (.pointer (some ⟨g, 0, none⟩))
  have b2 := Boxed.new (w.alloc (.cells #[.pointer (some ⟨g, 0, none⟩)] 22)) 30 S
  have b3 := Boxed.new ((w.alloc (.cells #[.pointer (some ⟨g, 0, none⟩)] 22)).alloc (.cells #[S] 30)) 30 (.slice none 0 0)
  have b4 := Boxed.new (((w.alloc (.cells #[.pointer (some ⟨g, 0, none⟩)] 22)).alloc (.cells #[S] 30)).alloc (.cells #[.slice none 0 0] 30)) 54 (.slice none 0 0)
  rw [e1] at b2
  rw [e2] at b3
  rw [e3] at b4
  refine ⟨(((b1.alloc _).alloc _).alloc _).alloc _, ((b2.alloc _).alloc _).alloc _, (b3.alloc _).alloc _, b4.alloc _, Kd.R_nil _ _ _ _ _, Kd.R_nil _ _ _ _ _, rfl, fun i hi => absurd hi (Nat.not_lt_zero i), by simp, fun x hx => absurd hx (by simp), below_alloc (below_alloc (below_alloc (below_alloc (below_alloc (Below.refl _ w) _) _) _) _) _, by omega, by omega, by omega⟩
theorem Fi.br1 {g Bt Bs BL BR : Nat} {S : Value} {w0 W : World} {uL uR vL vR : Value} {LL : List ByteArray} {IX P : List Nat} (h : Fi g Bt Bs BL BR S w0 uL uR vL vR LL IX P W) (v : Value) : Boxed (W.setCell ⟨BL, 0, none⟩ v) BR 54 uR :=
  box_step_typed h.br (grown_set W BL 0 v) 30 (fun k e => by injection e with e; subst e; exact ⟨_, h.bl⟩) (by decide)
theorem R_calm2 {α : Type} {d : Kd α} {e base : Nat} {ok : Nat → Prop} {X Y : World} {v : Value} {xs : List α} {row : Option Nat} (h : d.R e X base ok v xs) (hg : X.grownBy Y row) (hr : ∀ r, row = some r → ∃ o : Obj, X.heap[r]? = some o ∧ o.isCells = false) : d.R e Y base ok v xs :=
  Kd.R_mono (Kd.R_move (Kd.R_bound h) (fun k hk => hg.block k hk.2.2.1 (fun e' => by
    obtain ⟨_, _, _, q, _, cells, hc⟩ := hk
    obtain ⟨o, ho, hn⟩ := hr k e'.symm
    rw [hc] at ho
    cases ho
    cases hn))) (fun _ hk => hk.1)
theorem evenB_take {l : List ByteArray} (h : evenB l = true) (k : Nat) (hk : 0 < k) : evenB (l.take k) = true := by
  unfold evenB
  rw [List.all_eq_true]
  intro s hs
  rw [take_wid l k hk]
  have := evenB_size h (List.mem_of_mem_take hs)
  simpa using this
theorem strAt_map (l : List ByteArray) (IX : List Nat) (i : Nat) (hi : i < IX.length) : strAt (IX.map (strAt l)) i = strAt l (IX.getD i 0) := by
  unfold strAt
  rw [List.getD_eq_getElem?_getD, List.getElem?_map, List.getElem?_eq_getElem hi, List.getD_eq_getElem?_getD (l := IX), List.getElem?_eq_getElem hi]
  rfl
theorem str_now {w W : World} {ad : Addr} {l : List ByteArray} {i : Nat} {s : ByteArray} (hC : Kd.C Kd.string w (some ad) l.length l) (b : Below w.heap.size w W) (hs : i < l.length ∧ strAt l i = s) : W.cell? (ad.add i) = some (.string s) := by
  obtain ⟨ad2, e, hc⟩ := strs_at hC i hs.1
  cases e
  rw [hs.2] at hc
  exact (b.cell (World.block_lt_of_cell? _ _ hc)).trans hc
theorem below_between {n : Nat} {w W W1 : World} (b1 : Below n w W) (b2 : Below n w W1) (hs : W.heap.size ≤ W1.heap.size) : Below n W W1 :=
  ⟨b2.os.trans b1.os.symm, b2.tape.trans b1.tape.symm, b2.output.trans b1.output.symm, hs, fun k hk => (b2.block k hk).trans (b1.block k hk).symm⟩
theorem keeps_typed {B : Nat} {W W1 : World} {row : Option Nat} (hg : W.grownBy W1 row) (t : TypeId) (hrow : ∀ k, row = some k → ∃ cells, W.heap[k]? = some (.cells cells t (0, 0))) : KeepsFrom B W W1 :=
  ⟨hg.size, fun k o _ hk ho => (hg.block k (Array.getElem?_eq_some_iff.1 hk).1 (fun e => by
    obtain ⟨cells, hc⟩ := hrow k e.symm
    rw [hc] at hk
    cases hk
    cases ho)).trans hk⟩
theorem keeps_below {B : Nat} {W W1 : World} (b : Below W.heap.size W W1) : KeepsFrom B W W1 := keeps_typed (grown_below b none) 0 (fun k e => by cases e)
set_option maxRecDepth 100000 in
set_option maxHeartbeats 4000000 in
theorem fill_calls (g : Nat) (A : Option Addr) (c : Nat) (l : List ByteArray) (D : Option Addr) (d : Nat) (h : List Bool) (w : World) (hI : IsTab w g) (hC : Kd.C Kd.string w A l.length l) (hc : l.length ≤ c) (hz : ∀ s ∈ l, s.size ≤ 140737488355328) (hD : Kd.C Kd.bool w D h.length h) (hd : h.length ≤ d) :
    Calls Try.prog 17 #[.pointer (some ⟨g, 0, none⟩), .slice A l.length c, .slice D h.length d] w (Told w.heap.size (fillR l h) w) := by
  refine (callsIn_wide (n := 5)).1 ?_
  have HI := Aside0.mk hI
  have HC := Aside0.mk hC
  have HZ := Aside0.mk hz
  have HDD := Aside0.mk hD
  have HL := Lib.hid hc
  have HDL := Lib.hid hd
  have hmx : l.length ≤ 9223372036854775807 := Kd.C_max hC
  have hmd : h.length ≤ 9223372036854775807 := Kd.C_max hD
  clear hI hC hz hc hD hd
  refine callsIn_of_wp_marks Try.func17 rfl trivial ?_ rfl
  simp only [Try.ntmps17, List.size_toArray, List.length_cons, List.length_nil, Nat.reduceAdd, Nat.reduceSub, Array.replicate_succ, Array.replicate_zero, List.push_toArray, List.append_toArray, List.nil_append, List.cons_append]
  have hF : Fence.wide.fn 28 := trivial
  by_cases h9 : l.length = 9
  · have h9n : ((l.length : Int) != 9) = false := by rw [h9]; rfl
    by_cases hh9 : h.length = 9
    · have hh9n : ((h.length : Int) != 9) = false := by rw [hh9]; rfl
      have H9 := Lib.hid h9
      have HH9 := Lib.hid hh9
      clear h9 hh9
      gi_wp2_with (first | (gi_at_call 28; refine (there_calls _ _ _ _ _).mono ?_; rintro e w' ⟨rfl, rfl⟩))
      have G := Fi.start (g := g) (S := .slice A l.length c) (w := w) (x := .slice D h.length d)
      have bH := Boxed.new ((((w.alloc (.cells #[.pointer (some ⟨g, 0, none⟩)] 22)).alloc (.cells #[.slice A l.length c] 30)).alloc (.cells #[.slice none 0 0] 30)).alloc (.cells #[.slice none 0 0] 54)) 38 (.slice D h.length d)
      simp only [World.size_alloc] at bH
      generalize ((((w.alloc (.cells #[.pointer (some ⟨g, 0, none⟩)] 22)).alloc (.cells #[.slice A l.length c] 30)).alloc (.cells #[.slice none 0 0] 30)).alloc (.cells #[.slice none 0 0] 54)).alloc (.cells #[.slice D h.length d] 38) = W0 at G bH ⊢
      have hn0 : w.heap.size ≤ W0.heap.size := G.bw.size
      generalize w.heap.size + 1 + 1 + 1 + 1 = BH at bH ⊢
      generalize w.heap.size + 1 + 1 + 1 = BR at G ⊢
      generalize w.heap.size + 1 + 1 = BL at G ⊢
      generalize w.heap.size + 1 = Bs at G ⊢
      refine wpIn_range_told rfl (by decide) (gf := 35) (lb := #[.pointer (some ⟨BH, 0, none⟩)]) rfl trivial (enters_of Try.func35 (by kernel_rfl) rfl) (encs := fun x : Nat => #[.int .i64 ((x : Nat) : Int)]) (fun x _ => x < h.length) (fun ys => ys = idx h) h.length w.heap.size hn0 (fun _ => rfl) ?seq (fun pre W => ∃ vL vR P, Fi g w.heap.size Bs BL BR (.slice A l.length c) w vL vR vL vR (pre.map (strAt l)) pre P W) ?own ⟨_, _, _, G⟩ (fun pre x a' W => x < h.length ∧ pre.length < h.length ∧ a' = { tmps := #[.pointer (some ⟨g, 0, none⟩), .slice A l.length c, .slice D h.length d, .pointer (some ⟨w.heap.size, 0, none⟩), .pointer (some ⟨Bs, 0, none⟩), undef, .slice none 0 0, .int .i64 0, .pointer (some ⟨BL, 0, none⟩), .pointer (some ⟨BR, 0, none⟩), .int .i64 ((x : Nat) : Int), undef, undef, undef, .pointer (some ⟨g, 0, none⟩), .bool false, .bool false, .slice A l.length c, .int .i64 l.length, .bool false, .bool false, .bool false, .slice D h.length d, .int .i64 h.length, .bool false, .bool false, .slice D h.length d, .func (.func 35) #[] #[.pointer (some ⟨BH, 0, none⟩)], .int .i64 ((x : Nat) : Int), undef, undef, undef, undef, undef, undef, undef, undef, undef, undef, undef, undef, undef, undef, undef, undef, undef, undef, undef, undef, undef, undef, undef, undef, undef, undef, undef, undef, undef, undef, undef, undef, undef, undef, undef, undef, undef, undef, undef, undef, undef, undef, undef, undef, undef, undef], defers := [] } ∧ ∃ vL vR P, Fi g w.heap.size Bs BL BR (.slice A l.length c) w vL vR vL vR (pre.map (strAt l)) pre P W) ?ax ?assign ?body ?done
      case seq =>
        intro lq J W hW hJ hY h0
        exact there_in _ (by decide) lq BH D d h w HDD.out HDL.out J (fun pre x W1 h1 h2 h3 => hY pre x W1 h1 h2 h3) W (below2 G.bw hn0 hW) ((hW.cell (p := ⟨BH, 0, none⟩) bH.lt).trans bH.cell) h0
      case own =>
        rintro pre X Y row ⟨vL, vR, P, hs⟩ hg hr
        exact ⟨vL, vR, P, hs.calm hg (fun r e => ⟨Nat.le_trans hn0 (hr r e).1, (hr r e).2⟩)⟩
      case ax =>
        rintro pre x a' _ X Y row ⟨h1, h2, h3, vL, vR, P, hs⟩ hg hr
        exact ⟨h1, h2, h3, vL, vR, P, hs.calm hg (fun r e => ⟨Nat.le_trans hn0 (hr r e).1, (hr r e).2⟩)⟩
      case assign =>
        rintro lq pre x W K ⟨vL, vR, P, hs⟩ hv hN hK
        gi_wp2
        exact hK _ _ ⟨Nat.le_refl _, fun _ _ _ hk _ => hk⟩ (Below.refl _ _) ⟨hv, hN, rfl, vL, vR, P, hs⟩
      case body =>
        rintro lq pre i a' W ⟨hi, hpl, rfl, vL, vR, P, HG⟩
        have hi9 : i < l.length := by have := H9.out; have := HH9.out; omega
        have hi8 : i ≤ 8 := by have := HH9.out; omega
        have hpl9 : pre.length < 9 := by have := HH9.out; omega
        obtain ⟨ad, hA, _⟩ := strs_at HC.out i hi9
        subst hA
        obtain ⟨s, hs⟩ : ∃ s, i < l.length ∧ strAt l i = s := ⟨_, hi9, rfl⟩
        have hs := Lib.hid hs
        have HG0 := HG.below (Below.drew (Below.refl _ _))
        have hii : (i : Int) < (l.length : Int) := by omega
        gi_wp2
        refine startIn_ (m := 15) (by kernel_rfl) (by rintro ⟨_, _, h1, _⟩; cases h1) (S := fun w' => w'.cell? ⟨BL, 0, none⟩ = some vL ∧ w'.cell? ⟨Bs, 0, none⟩ = some (.slice (some ad) l.length c) ∧ w'.cell? (ad.add i) = some (.string s) ∧ w'.cell? ⟨BR, 0, none⟩ = some vR ∧ w'.cell? ⟨w.heap.size, 0, none⟩ = some (.pointer (some ⟨g, 0, none⟩))) (ds := [13, 14]) #[false, false, false, false, false, false, false, false, false, false, false, false, false, false, false] (by kernel_rfl) rfl rfl ⟨HG0.bl.cell, HG0.bs.cell, (str_now HC.out HG0.bw hs.out), HG0.br.cell, HG0.bt.cell⟩ (fun hHeld => ?_)
        refine pure_ (i := 2) (N := some 31) (v := ?_) (a' := ?_) #[false, false, true, false, false, false, false, false, false, false, false, false, false, false, false] rfl rfl (by kernel_rfl) (fun _ _ _ h => h) (Or.inl ⟨by rfl, ?_⟩) ?_ ?_
        rotate_left
        · intro w'
          go_simp
          with_reducible rfl
        rotate_left
        · simp only [Act.put, List.setIfInBounds_toArray, List.set_cons_zero, List.set_cons_succ]
          rfl
        refine pure_ (i := 9) (N := some 38) (v := ?_) (a' := ?_) #[false, false, true, false, false, false, false, false, false, true, false, false, false, false, false] rfl rfl (by kernel_rfl) (fun _ _ _ h => h) (Or.inl ⟨by rfl, ?_⟩) ?_ ?_
        rotate_left
        · intro w'
          go_simp
          with_reducible rfl
        rotate_left
        · simp only [Act.put, List.setIfInBounds_toArray, List.set_cons_zero, List.set_cons_succ]
          rfl
        refine take_ (i := 0) (N := some 29) (v := ?_) (a' := ?_) #[true, false, true, false, false, false, false, false, false, true, false, false, false, false, false] rfl rfl (by kernel_rfl) (fun _ _ _ h => h) (Or.inl ⟨by rfl, ?_⟩) hHeld ?_ ?_
        rotate_left
        · rintro w' ⟨s0, s1, s2, s3, s4⟩
          go_simp
          with_reducible rfl
        rotate_left
        · simp only [Act.put, List.setIfInBounds_toArray, List.set_cons_zero, List.set_cons_succ]
          rfl
        refine take_ (i := 1) (N := some 30) (v := ?_) (a' := ?_) #[true, true, true, false, false, false, false, false, false, true, false, false, false, false, false] rfl rfl (by kernel_rfl) (fun _ _ _ h => h) (Or.inl ⟨by rfl, ?_⟩) hHeld ?_ ?_
        rotate_left
        · rintro w' ⟨s0, s1, s2, s3, s4⟩
          go_simp
          with_reducible rfl
        rotate_left
        · simp only [Act.put, List.setIfInBounds_toArray, List.set_cons_zero, List.set_cons_succ]
          rfl
        refine pure_ (i := 3) (N := some 32) (v := ?_) (a' := ?_) #[true, true, true, true, false, false, false, false, false, true, false, false, false, false, false] rfl rfl (by kernel_rfl) (fun _ _ _ h => h) (Or.inl ⟨by rfl, ?_⟩) ?_ ?_
        rotate_left
        · intro w'
          go_simp
          with_reducible rfl
        rotate_left
        · simp only [Act.put, List.setIfInBounds_toArray, List.set_cons_zero, List.set_cons_succ]
          rfl
        refine take_ (i := 4) (N := some 33) (v := ?_) (a' := ?_) #[true, true, true, true, true, false, false, false, false, true, false, false, false, false, false] rfl rfl (by kernel_rfl) (fun _ _ _ h => h) (Or.inl ⟨by rfl, ?_⟩) hHeld ?_ ?_
        rotate_left
        · rintro w' ⟨s0, s1, s2, s3, s4⟩
          go_simp
          with_reducible rfl
        rotate_left
        · simp only [Act.put, List.setIfInBounds_toArray, List.set_cons_zero, List.set_cons_succ]
          rfl
        refine take_ (i := 7) (N := some 36) (v := ?_) (a' := ?_) #[true, true, true, true, true, false, false, true, false, true, false, false, false, false, false] rfl rfl (by kernel_rfl) (fun _ _ _ h => h) (Or.inl ⟨by rfl, ?_⟩) hHeld ?_ ?_
        rotate_left
        · rintro w' ⟨s0, s1, s2, s3, s4⟩
          go_simp
          with_reducible rfl
        rotate_left
        · simp only [Act.put, List.setIfInBounds_toArray, List.set_cons_zero, List.set_cons_succ]
          rfl
        refine take_ (i := 8) (N := some 37) (v := ?_) (a' := ?_) #[true, true, true, true, true, false, false, true, true, true, false, false, false, false, false] rfl rfl (by kernel_rfl) (fun _ _ _ h => h) (Or.inl ⟨by rfl, ?_⟩) hHeld ?_ ?_
        rotate_left
        · rintro w' ⟨s0, s1, s2, s3, s4⟩
          go_simp
          with_reducible rfl
        rotate_left
        · simp only [Act.put, List.setIfInBounds_toArray, List.set_cons_zero, List.set_cons_succ]
          rfl
        refine one_ (i := 5) (N := some 34) #[true, true, true, true, true, true, false, true, true, true, false, false, false, false, false] rfl rfl (by kernel_rfl) (by decide) (fun K hK => ?_)
        refine value_ (w1 := ?_) (v := ?_) (by rfl) rfl ?_ ?_
        rotate_left 2
        · go_simp
          constructor
          · rfl
          · rfl
        have HG1 := HG0.below (below_alloc (Below.refl _ _) (.cells #[.string s] 9))
        refine hK.out _ _ ⟨HG1.bl.cell, HG1.bs.cell, (str_now HC.out HG1.bw hs.out), HG1.br.cell, HG1.bt.cell⟩ (fun hHeld => ?_)
        clear hK K
        refine norm_ (a' := ?_) ?_ ?_
        rotate_left
        · show Act.put _ (some 34) _ = _
          simp only [Act.put, List.setIfInBounds_toArray, List.set_cons_zero, List.set_cons_succ]
          rfl
        refine one_ (i := 6) (N := some 35) #[true, true, true, true, true, true, true, true, true, true, false, false, false, false, false] rfl rfl (by kernel_rfl) (by decide) (fun K hK => ?_)
        refine Kd.R_append_step Kd.string (w0 := w) w.heap.size (by rfl) (.tmp 29) (.tmp 34) 30 9 (.string ⟨#[]⟩) 16 rfl Try.underlying30 infoStr rfl (by decide) (by decide) vL (pre.map (strAt l)) s [.string s] (fun j => w.heap.size ≤ j) (fun _ => False) rfl rfl rfl (fun _ hk => hk.elim) (fun j hj => Nat.le_trans HG0.bw.size hj) HG0.oL HG0.bw HG0.bw.size (by rw [List.length_map]; omega) ?_
        intro v1 w3 hR hB hg _
        obtain ⟨A1, n1, c1, rfl⟩ : ∃ A1 n1 c1, v1 = .slice A1 n1 c1 := by obtain ⟨A1, c1, e⟩ := Kd.R_slice hR; exact ⟨A1, _, c1, e⟩
        have HG2 := HG0.left hR hg
        refine hK.out _ _ ⟨HG2.bl.cell, HG2.bs.cell, (str_now HC.out HG2.bw hs.out), HG2.br.cell, HG2.bt.cell⟩ (fun hHeld => ?_)
        clear hK K
        refine norm_ (a' := ?_) ?_ ?_
        rotate_left
        · show Act.put _ (some 35) _ = _
          simp only [Act.put, List.setIfInBounds_toArray, List.set_cons_zero, List.set_cons_succ]
          rfl
        refine one_ (i := 10) (N := some 39) #[true, true, true, true, true, true, true, true, true, true, true, false, false, false, false] rfl rfl (by kernel_rfl) (by decide) (fun K hK => ?_)
        refine goes_ Try.func24 (by kernel_rfl) rfl #[.pointer (some ⟨g, 0, none⟩), .int .i64 (i : Int)] (by rfl) rfl rfl (by simp only [List.map_toArray, List.map_cons, List.map_nil]; rfl) ?_
        with_reducible refine (row_told g i hi8 _ (HI.out.below HG2.bw)).mono ?_
        rintro e w4 ⟨b, rfl, hF, hbg, hb⟩
        refine ⟨_, rfl, ?_⟩
        have HG4 := HG2.below hb
        refine hK.out _ _ ⟨HG4.bl.cell, HG4.bs.cell, (str_now HC.out HG4.bw hs.out), HG4.br.cell, HG4.bt.cell⟩ (fun hHeld => ?_)
        clear hK K
        refine norm_ (a' := ?_) ?_ ?_
        rotate_left
        · show Act.put _ (some 39) _ = _
          simp only [Act.put, List.setIfInBounds_toArray, List.set_cons_zero, List.set_cons_succ]
          rfl
        refine one_ (i := 11) (N := some 40) #[true, true, true, true, true, true, true, true, true, true, true, true, false, false, false] rfl rfl (by kernel_rfl) (by decide) (fun K hK => ?_)
        refine value_ (w1 := ?_) (v := ?_) (by rfl) rfl ?_ ?_
        rotate_left 2
        · go_simp
          constructor
          · rfl
          · rfl
        have HG5 := HG4.below (below_alloc (Below.refl _ _) (.cells #[.slice (some ⟨b, 0, none⟩) 6 6] 51))
        refine hK.out _ _ ⟨HG5.bl.cell, HG5.bs.cell, (str_now HC.out HG5.bw hs.out), HG5.br.cell, HG5.bt.cell⟩ (fun hHeld => ?_)
        clear hK K
        refine norm_ (a' := ?_) ?_ ?_
        rotate_left
        · show Act.put _ (some 40) _ = _
          simp only [Act.put, List.setIfInBounds_toArray, List.set_cons_zero, List.set_cons_succ]
          rfl
        refine one_ (i := 12) (N := some 41) #[true, true, true, true, true, true, true, true, true, true, true, true, true, false, false] rfl rfl (by kernel_rfl) (by decide) (fun K hK => ?_)
        refine Kd.R_append_step kPtr (w0 := w) w.heap.size (by rfl) (.tmp 36) (.tmp 40) 54 51 (.slice none 0 0) 24 rfl Try.underlying54 infoPtr rfl (by decide) (by decide) vR P b [.slice (some ⟨b, 0, none⟩) 6 6] (fun j => w.heap.size ≤ j) (fun _ => False) rfl rfl rfl (fun _ hk => hk.elim) (fun j hj => Nat.le_trans HG4.bw.size hj) HG4.oR HG4.bw HG4.bw.size (by rw [HG0.lP]; omega) ?_
        intro v2 w5 hR2 hB2 hg2 _
        obtain ⟨A2, n2, c2, rfl⟩ : ∃ A2 n2 c2, v2 = .slice A2 n2 c2 := by obtain ⟨A2, c2, e⟩ := Kd.R_slice hR2; exact ⟨A2, _, c2, e⟩
        have HG6 := HG4.row hR2 hg2 hF (fun x hx => Nat.lt_of_lt_of_le (HG2.sP x hx).2 hbg) (Nat.le_trans HG2.bw.size hbg)
        have c13 := HG6.bl.cell
        have f13 := HG6.bl.frozen
        have c14 := (HG6.br1 (.slice A1 n1 c1)).cell
        have f14 := (HG6.br1 (.slice A1 n1 c1)).frozen
        refine hK.out _ _ ⟨HG6.bl.cell, HG6.bs.cell, (str_now HC.out HG6.bw hs.out), HG6.br.cell, HG6.bt.cell⟩ (fun hHeld => ?_)
        clear hK K
        refine norm_ (a' := ?_) ?_ ?_
        rotate_left
        · show Act.put _ (some 41) _ = _
          simp only [Act.put, List.setIfInBounds_toArray, List.set_cons_zero, List.set_cons_succ]
          rfl
        refine last_ (i := 13) (N := none) #[true, true, true, true, true, true, true, true, true, true, true, true, true, true, false] rfl rfl (by kernel_rfl) (by decide) (fun K hK => ?_)
        refine skip_ (w1 := ?_) (by rfl) rfl ?_ ?_
        rotate_left
        · go_simp
          rfl
        refine hK.out _ _ ?_
        clear hK K
        refine last_ (i := 14) (N := none) #[true, true, true, true, true, true, true, true, true, true, true, true, true, true, true] rfl rfl (by kernel_rfl) (by decide) (fun K hK => ?_)
        refine skip_ (w1 := ?_) (by rfl) rfl ?_ ?_
        rotate_left
        · go_simp
          rfl
        refine hK.out _ _ ?_
        clear hK K
        refine done_ (by kernel_rfl) ?_
        have hL2 := fun k e => Kd.R_typed HG0.oL k e
        have hR3 := fun k e => Kd.R_typed HG4.oR k e
        have hfin := HG6.put (.slice A1 n1 c1) (.slice A2 n2 c2)
        have b1 : KeepsFrom W0.heap.size W W.drew := keeps_below (Below.drew (Below.refl _ _))
        have b2 : KeepsFrom W0.heap.size W.drew w3 := keeps_typed hg _ hL2
        have b3 : KeepsFrom W0.heap.size w3 w4 := keeps_below hb
        have b4 : KeepsFrom W0.heap.size w4 w5 := keeps_typed hg2 _ hR3
        have b5 := (KeepsOthers.setCell w5 ⟨BL, 0, none⟩ (.slice A1 n1 c1)).from W0.heap.size
        have b6 := (KeepsOthers.setCell (w5.setCell ⟨BL, 0, none⟩ (.slice A1 n1 c1)) ⟨BR, 0, none⟩ (.slice A2 n2 c2)).from W0.heap.size
        have bk := ((((b1.trans b2).trans b3).trans b4).trans b5).trans b6
        refine ⟨rfl, bk, below_between HG.bw hfin.bw bk.size, .slice A1 n1 c1, .slice A2 n2 c2, P ++ [b], ?_⟩
        rw [List.map_append, List.map_singleton, hs.out.2]
        exact hfin
      case done =>
        rintro D0 ys W hDD hS ⟨vL, vR, P, HG⟩ hK
        subst hS
        obtain ⟨A1, c1, rfl⟩ := Kd.R_slice HG.oL
        have hlen : (List.map (strAt l) (idx h)).length = (idx h).length := List.length_map _
        have hRL := Kd.R_reads' HG.oL
        have HLC : Aside0 (Kd.C Kd.string W A1 (leftL l h).length (leftL l h)) := ⟨hRL.2.2⟩
        have HLL : Hid ((leftL l h).length ≤ c1) := Lib.hid hRL.2.1
        have HE := Aside0.mk (even_calls A1 c1 (leftL l h) W HLC.out HLL.out)
        have hbl : W.cell? ⟨BL, 0, none⟩ = some (.slice A1 (leftL l h).length c1) := HG.bl.cell
        have HG := Aside0.mk HG
        have HKD := Lib.hid hK
        clear hRL hK hlen
        cases he : evenB (leftL l h) with
        | false =>
          rw [he] at HE
          have HR := Lib.hid (show fillR l h = ([], 1) by unfold fillR; rw [if_pos ⟨H9.out, HH9.out⟩, if_neg (by rw [he]; simp)])
          have hF2 : Fence.wide.fn 22 := trivial
          gi_wp2_with (gi_at_call 22; refine (callsIn_wide.2 HE.out).mono ?_; rintro e W2 ⟨rfl, hb⟩)
          refine ⟨by simp, .inl ⟨_, _, rfl, run_takeDeferred ((hb.block _ (Array.getElem?_eq_some_iff.1 HKD.out).1).trans HKD.out), ?_⟩⟩
          refine ⟨_, results_tmp2 rfl _ _ _, none, 0, by rw [HR.out]; rfl, by rw [HR.out]; exact Kd.R_nil _ _ _ _ _, ?_⟩
          exact (below2 HG.out.bw HG.out.bw.size hb).trans (belowK_b (w := w) (Nat.le_refl _) W2 D0 _ _ (Nat.le_trans hn0 hDD) ((hb.block _ (Array.getElem?_eq_some_iff.1 HKD.out).1).trans HKD.out) rfl rfl)
        | true =>
          rw [he] at HE
          have hF2 : Fence.wide.fn 22 := trivial
          have hlen : (leftL l h).length = (idx h).length := List.length_map _
          by_cases h6 : (idx h).length < 6
          · have HR := Lib.hid (show fillR l h = ([], 2) by unfold fillR; rw [if_pos ⟨H9.out, HH9.out⟩, if_pos he, if_pos h6])
            have h6i : ((leftL l h).length : Int) < 6 := by omega
            replace h6 := Lib.hid h6
            replace hlen := Lib.hid hlen
            replace he := Lib.hid he
            gi_wp2_with (gi_at_call 22; refine (callsIn_wide.2 HE.out).mono ?_; rintro e W2 ⟨rfl, hb⟩; have hbl2 : W2.cell? ⟨BL, 0, none⟩ = some (.slice A1 (leftL l h).length c1) := (hb.cell (p := ⟨BL, 0, none⟩) HG.out.bl.lt).trans hbl)
            refine ⟨by simp, .inl ⟨_, _, rfl, run_takeDeferred ((hb.block _ (Array.getElem?_eq_some_iff.1 HKD.out).1).trans HKD.out), ?_⟩⟩
            refine ⟨_, results_tmp2 rfl _ _ _, none, 0, by rw [HR.out]; rfl, by rw [HR.out]; exact Kd.R_nil _ _ _ _ _, ?_⟩
            exact (below2 HG.out.bw HG.out.bw.size hb).trans (belowK_b (w := w) (Nat.le_refl _) W2 D0 _ _ (Nat.le_trans hn0 hDD) ((hb.block _ (Array.getElem?_eq_some_iff.1 HKD.out).1).trans HKD.out) rfl rfl)
          · have HR := Lib.hid (show fillR l h = encR (dataL l h) by unfold fillR; rw [if_pos ⟨H9.out, HH9.out⟩, if_pos he, if_neg h6])
            have h6i : (6 : Int) ≤ ((leftL l h).length : Int) := by omega
            have hn6 : 6 ≤ (leftL l h).length := by omega
            have hcut : decide (((leftL l h).length : Int) < 6) = false := by simp; omega
            have hc16 : 6 ≤ c1 := Nat.le_trans hn6 HLL.out
            obtain ⟨A2, c2, hv2⟩ := Kd.R_slice HG.out.oR
            subst hv2
            have hP6 : 6 ≤ P.length := by rw [HG.out.lP]; omega
            have hc26 : 6 ≤ c2 := Nat.le_trans hP6 (Kd.R_reads' HG.out.oR).2.1
            have hbr : W.cell? ⟨BR, 0, none⟩ = some (.slice A2 P.length c2) := HG.out.br.cell
            replace h6 := Lib.hid h6
            replace hlen := Lib.hid hlen
            replace he := Lib.hid he
            gi_wp2_with (gi_at_call 22; refine (callsIn_wide.2 HE.out).mono ?_; rintro e W2 ⟨rfl, hb⟩; have HG2 := Aside0.mk (HG.out.below hb); have hbl2 : W2.cell? ⟨BL, 0, none⟩ = some (.slice A1 (leftL l h).length c1) := HG2.out.bl.cell; have hbr2 : W2.cell? ⟨BR, 0, none⟩ = some (.slice A2 P.length c2) := HG2.out.br.cell; have HKD2 := Lib.hid ((hb.block _ (Array.getElem?_eq_some_iff.1 HKD.out).1).trans HKD.out); clear hbl hbr hb)
            refine wpIn_mono (Q := fun e a' w' => e = .normal ∧ a' = { tmps := #[.pointer (some ⟨g, 0, none⟩), .slice A l.length c, .slice D h.length d, .pointer (some ⟨w.heap.size, 0, none⟩), .pointer (some ⟨Bs, 0, none⟩), undef, .slice none 0 0, .int .i64 0, .pointer (some ⟨BL, 0, none⟩), .pointer (some ⟨BR, 0, none⟩), undef, undef, undef, undef, .pointer (some ⟨g, 0, none⟩), .bool false, .bool false, .slice A l.length c, .int .i64 l.length, .bool false, .bool false, .bool false, .slice D h.length d, .int .i64 h.length, .bool false, .bool false, .slice D h.length d, .func (.func 35) #[] #[.pointer (some ⟨BH, 0, none⟩)], undef, undef, undef, undef, undef, undef, undef, undef, undef, undef, undef, undef, undef, undef, .bool false, .slice A1 (leftL l h).length c1, .bool true, .bool false, .bool false, .slice A1 (leftL l h).length c1, .int .i64 ((leftL l h).length : Nat), .bool false, .slice A1 (leftL l h).length c1, .slice A1 6 c1, .slice A2 P.length c2, .slice A2 6 c2, undef, undef, undef, undef, undef, undef, undef, undef, undef, undef, undef, undef, undef, undef, undef, undef, undef, undef, undef, undef, undef], defers := [{ target := .collected D0, args := #[] }] } ∧ Fi g w.heap.size Bs BL BR (.slice A l.length c) w (.slice A1 6 c1) (.slice A2 6 c2) (.slice A1 (leftL l h).length c1) (.slice A2 P.length c2) (leftL l h) (idx h) P w' ∧ W2.heap.size ≤ w'.heap.size ∧ (∀ (D : Nat) (o : Obj), W2.heap[D]? = some o → o.isCells = false → w'.heap[D]? = some o)) ?reg ?cont
            case reg =>
              refine wpIn_wide.2 ?_
              have f1 := HG2.out.bl.frozen
              have f2 := HG2.out.br.frozen
              have hnel := HG2.out.bl
              have hne : BL ≠ BR := by
                intro e
                have e2 := HG2.out.br
                rw [← e] at e2
                have e3 : W2.heap[BL]? = _ := HG2.out.bl
                rw [show W2.heap[BL]? = _ from e2] at e3
                injection e3 with e3
                injection e3 with _ e3
                exact absurd e3 (by decide)
              have hne2 := Ne.symm hne
              go_region
              all_goals
                refine ⟨rfl, rfl, (HG2.out.put (.slice A1 6 c1) (.slice A2 6 c2)).below (Below.drew (Below.refl _ _)), by simp, fun D o ho hn => ?_⟩
                exact (((KeepsOthers.setCell W2 ⟨BL, 0, none⟩ (.slice A1 6 c1)).from 0).trans ((KeepsOthers.setCell (W2.setCell ⟨BL, 0, none⟩ (.slice A1 6 c1)) ⟨BR, 0, none⟩ (.slice A2 6 c2)).from 0)).same D o (Nat.zero_le _) ho hn
            case cont =>
              rintro e a' W3 ⟨rfl, rfl, HG3, hs3, hd3⟩
              obtain ⟨gR, cR, hvR, hgR, hPt, hPc⟩ := HG3.ptr (by omega)
              injection hvR with e1 e2 e3
              subst e1 e3
              have hP6l : (P.take 6).length = 6 := by rw [List.length_take]; omega
              have hil : ((idx h).take 6).length = 6 := by rw [List.length_take]; have := HG3.lP; omega
              have HSV := solve_calls g gR c2 (P.take 6) (((idx h).take 6).map frow) W3 (HI.out.below HG3.bw) (hPt.take 6) hP6l (HG3.nd.sublist (List.take_sublist 6 P)) (Wf.frows _ hil) (fun i hi => by
                rw [rowAt_map _ _ (by rw [hil]; exact hi), getD_take _ _ _ hi, getD_take _ _ _ hi]
                exact HG3.rw i (by omega)) ⟨by have := HI.out.2.2; omega, fun hm => by have := (HG3.sP g (List.mem_of_mem_take hm)).1; have := HI.out.2.2; omega⟩ hc26
              have HSV := Aside0.mk HSV
              have HKD3 := hd3 D0 _ HKD2.out rfl
              have ct3 := HG3.bt.cell
              have cr3 := HG3.br.cell
              have HSD := Aside0.mk (fun W4 (hF : Fr gR (P.take 6) W3 W4) => HG3.solved hPt hF hgR)
              have hs3' := Lib.hid hs3
              have HKD3 := Lib.hid HKD3
              have HG3 := Aside0.mk HG3
              clear hPt hd3 hs3 hP6l hil HG2 hbl2 hbr2 HKD2
              refine ‹∀ (a : Act) (w : World), Code.wpIn Fence.wide 5 Try.prog _ _ a w → _› _ _ (wpIn_wide.2 ?_)
              go_wp2_with (go_at_call 29; refine HSV.out.mono ?_; rintro e W4 ⟨gK, Q, rfl, hQp, hQ6, hQr, hWf, hgK, hI4, hFr⟩)
              obtain ⟨hbt4, hbl4, hoL4, hbw4, hdf4⟩ := HSD.out W4 hFr
              have HT4 := Aside0.mk hbt4
              have HB4 := Aside0.mk hbl4
              have HL4 := Aside0.mk (Kd.R_reads' hoL4).2.2
              have HW4 := Aside0.mk hbw4
              have HK4 := Lib.hid (hdf4 D0 _ HKD3.out rfl)
              have HQp := Aside0.mk hQp
              have HQ6 := Lib.hid hQ6
              have HQr := Aside0.mk hQr
              have HWf := Aside0.mk hWf
              have HI4 := Aside0.mk hI4
              have he6 : Hid (evenB ((leftL l h).take 6) = true) := Lib.hid (evenB_take he.out 6 (by omega))
              have hl6 : Hid (((leftL l h).take 6).length = 6) := Lib.hid (by rw [List.length_take]; omega)
              have hw6 : Hid (wid ((leftL l h).take 6) ≤ 140737488355328) := Lib.hid (by
                rw [take_wid _ _ (by omega)]
                unfold wid leftL
                rw [strAt_map _ _ _ (by have := hlen.out; omega)]
                have hm : (idx h).getD 0 0 < l.length := by
                  have h1 : (idx h).getD 0 0 ∈ idx h := mem_get (by have := hlen.out; omega)
                  have h2 := (List.mem_filter.1 h1).1
                  rw [List.mem_range] at h2
                  have := H9.out
                  have := HH9.out
                  omega
                rw [strAt_eq hm]
                exact HZ.out _ (List.getElem_mem hm))
              have HL6 := Aside0.mk (strs_take HL4.out 6 hn6)
              clear hFr hbt4 hbl4 hoL4 hbw4 hdf4 hQp hQ6 hQr hWf hI4 hgK HL4 HSD ct3 cr3 HKD3
              obtain ⟨R6, hR6⟩ : ∃ R, solveN (((idx h).take 6).map frow) = R := ⟨_, rfl⟩
              obtain ⟨l6, hl6e⟩ : ∃ x, (leftL l h).take 6 = x := ⟨_, rfl⟩
              rw [hR6] at HQr HWf
              rw [hl6e] at he6 hl6 hw6 HL6
              have hDL : Hid (dataL l h = dataK R6 l6 6) := Lib.hid (by unfold dataL; rw [hR6, hl6e])
              clear hR6 hl6e
              have G1 : Aside0 (RS W4.heap.size (.slice none 0 0) (dataK R6 l6 0) W4) := ⟨Kd.R_nil _ _ _ _ _⟩
              have G2 : Aside0 (Below W4.heap.size W4 W4) := ⟨Below.refl _ _⟩
              go_loopw [11, 58] (fun v i wr => ∃ k : Nat, k ≤ 6 ∧ i = .int .i64 k ∧ Aside0 (RS W4.heap.size v (dataK R6 l6 k) wr) ∧ Aside0 (Below W4.heap.size W4 wr)) (fun _ i _ => 6 - (intOf i).toNat)
              case atStart => exact ⟨0, by omega, rfl, G1, G2⟩
              case round =>
                clear G1 G2
                obtain ⟨k, hk, rfl, G1, G2⟩ := hrel
                by_cases hlt : k < 6
                · have HK := Lib.hid hlt
                  obtain ⟨qk, hqk⟩ : ∃ q, Q.getD k 0 = q := ⟨_, rfl⟩
                  have cq := (HQp.out.at' (G2.out.block _ HQp.out.lt)).cell k (by rw [HQ6.out]; exact hlt)
                  rw [hqk] at cq
                  have cq : wr.cell? ⟨gK, k, none⟩ = some (.slice (some ⟨qk, 0, none⟩) 6 6) := cq
                  have ct := (HT4.out.kept (grown_below G2.out none) (by simp)).cell
                  have cl := (HB4.out.kept (grown_below G2.out none) (by simp)).cell
                  have hrow := HQr.out k hlt
                  rw [hqk] at hrow
                  have MX := mix_calls g qk 6 (rowAt R6 k) A1 c1 l6 (wid l6) wr (HI4.out.below G2.out) (hrow.keep G2.out) (HWf.out.row hlt).2 (by rw [hl6.out, (HWf.out.row hlt).1]; exact Nat.le_refl _) (by rw [(HWf.out.row hlt).1]; exact Nat.le_refl _) (Kd.C_below HL6.out G2.out) (by rw [hl6.out]; exact hc16) (by rw [hl6.out]; decide) (fun s hs => evenB_size he6.out hs) hw6.out
                  rw [(HWf.out.row hlt).1, hl6.out] at MX
                  have MX := Aside0.mk (show Calls Try.prog 23 #[.pointer (some ⟨g, 0, none⟩), .slice (some ⟨qk, 0, none⟩) 6 6, .slice A1 6 c1] wr fun e w' => e = .returned (.string (mixS (rowAt R6 k) l6)) ∧ Below wr.heap.size wr w' from MX)
                  clear hqk hrow
                  go_wp2_with (first | (go_at_call 23; refine MX.out.mono ?_; rintro e w2 ⟨rfl, hb⟩; have G1 := Aside0.mk (G1.out.keep hb); have G2 := Aside0.mk (below2 G2.out G2.out.size hb); clear hb cq ct cl) | (at_builtin; refine Kd.R_append Kd.string (w0 := W4) W4.heap.size rfl (.tmp 62) (.tmp 67) 30 9 (.string ⟨#[]⟩) 16 rfl Try.underlying30 infoStr rfl (by decide) (by decide) u11 (dataK R6 l6 k) (mixS (rowAt R6 k) l6) [.string (mixS (rowAt R6 k) l6)] (fun j => W4.heap.size ≤ j) (fun _ => False) rfl rfl rfl (fun _ hk => hk.elim) (fun j hj => Nat.le_trans G2.out.size hj) G1.out G2.out G2.out.size (by rw [dataK_len]; have := HK.out; omega) ?_; intro v1 w3 hR hB hg _; rw [dataK_succ] at hR; have G1 := Aside0.mk hR; have G2 := Aside0.mk hB; clear hR hB hg))
                  go_roundw
                  case rel => exact ⟨k + 1, HK.out, by go_num, G1, G2⟩
                  case measure => have := HK.out; simp [intOf]; omega
                · obtain rfl : k = 6 := by omega
                  obtain ⟨A5, c5, hv5⟩ := Kd.R_slice G1.out
                  subst hv5
                  have hr5 := Kd.R_reads' G1.out
                  have EN := encode_calls g A5 c5 (dataK R6 l6 6) wr (HI4.out.below G2.out) hr5.2.2 hr5.2.1 (fun s hs => by
                    obtain ⟨i, hi, rfl⟩ := List.mem_map.1 hs
                    unfold mixS
                    rw [B_size, mixL_len]
                    exact hw6.out)
                  have EN := Aside0.mk EN
                  have ct := (HT4.out.kept (grown_below G2.out none) (by simp)).cell
                  clear hr5
                  go_wp2_with (go_at_call 12; refine EN.out.mono ?_; rintro e W5 ⟨A6, c6, rfl, hO, hB⟩)
                  have hK5 := (hB.block _ (Nat.lt_of_lt_of_le (Array.getElem?_eq_some_iff.1 HK4.out).1 G2.out.size)).trans ((G2.out.block _ (Array.getElem?_eq_some_iff.1 HK4.out).1).trans HK4.out)
                  have hbW := below2 HW4.out HW4.out.size (below2 G2.out G2.out.size hB)
                  refine ⟨by simp, .inl ⟨_, _, rfl, run_takeDeferred hK5, ?_⟩⟩
                  refine ⟨_, results_tmp2 rfl _ _ _, A6, c6, by rw [HR.out, hDL.out]; rfl, ?_, hbW.trans (belowK_b (w := w) (Nat.le_refl _) W5 D0 _ _ (Nat.le_trans hn0 hDD) hK5 rfl rfl)⟩
                  rw [HR.out, hDL.out]
                  refine R_calm2 (Kd.R_mono (Kd.R_lower hO (Nat.le_trans HW4.out.size G2.out.size)) (fun k hk => Nat.le_trans (Nat.le_trans HW4.out.size G2.out.size) hk)) (grownBy_putObj' W5 D0 (.deferred none)) (fun r e' => by cases e'; exact ⟨_, hK5, rfl⟩)
    · have hh9n : ((h.length : Int) != 9) = true := by rw [bne_iff_ne]; omega
      have HR := Lib.hid (show fillR l h = ([], 1) by unfold fillR; rw [if_neg (fun e => hh9 e.2)])
      have hh9 := Lib.hid hh9
      have h9 := Lib.hid h9
      gi_wp2_with fail
      refine ⟨_, results_tmp2 rfl _ _ _, none, 0, by rw [HR.out]; rfl, by rw [HR.out]; exact Kd.R_nil _ _ _ _ _, below_alloc (below_alloc (Below.refl _ w) _) _⟩
  · have h9n : ((l.length : Int) != 9) = true := by rw [bne_iff_ne]; omega
    have HR := Lib.hid (show fillR l h = ([], 1) by unfold fillR; rw [if_neg (fun e => h9 e.1)])
    have h9 := Lib.hid h9
    gi_wp2_with fail
    refine ⟨_, results_tmp2 rfl _ _ _, none, 0, by rw [HR.out]; rfl, by rw [HR.out]; exact Kd.R_nil _ _ _ _ _, below_alloc (below_alloc (Below.refl _ w) _) _⟩
end Go.Proofs.Ytlaflbjlgkdacaa
end
section
namespace Go.Proofs.Ytlaflbjlgkdacaa
open Go.RowKit Q Go.Proofs.YtlaflbjlgkdacaaW.PrintWords Go.Proofs.YtlaflbjlgkdacaaW.PrintLast Go.Proofs.YtlaflbjlgkdacaaW.PrintMore
theorem str_ext {a b : ByteArray} (hs : a.size = b.size) (h : ∀ p, p < a.size → byt a p = byt b p) : a = b := by
  apply eq_of_data
  apply List.ext_getElem
  · simpa using hs
  · intro i h1 h2
    have h1' : i < a.size := by simpa using h1
    have h3 := h i h1'
    have h2' : i < b.size := by omega
    rw [byt_eq a i h1', byt_eq b i h2'] at h3
    exact UInt8.toNat_inj.1 h3
theorem mixS_size (fs : List Nat) (l : List ByteArray) : (mixS fs l).size = wid l := by unfold mixS; rw [B_size, mixL_len]
theorem byt_mix (fs : List Nat) (l : List ByteArray) (p : Nat) (hp : p < wid l) : byt (mixS fs l) p = accAt fs l l.length p := by
  have h1 := accAt_le fs l l.length p
  unfold byt mixS
  rw [B_data, mixL, List.getD_eq_getElem?_getD, List.getElem?_map, List.getElem?_range hp]
  simp
  omega
theorem tried_all (h : List Bool) (hl : h.length = 9) : tried h = true := by
  match h, hl with
  | [a, b, c, d, e, f, g, i, j], _ => exact all_tried a b c d e f g i j
theorem six_idx (h : List Bool) (hl : h.length = 9) : six h = (idx h).take 6 := by unfold six idx; rw [hl]
theorem turned (h : List Bool) (hl : h.length = 9) (h6 : 6 ≤ (idx h).length) : turns (((idx h).take 6).map frow) (solveN (((idx h).take 6).map frow)) = true := by
  have ht := tried_all h hl
  unfold tried at ht
  have e : (six h).length = 6 := by rw [six_idx h hl, List.length_take]; omega
  rw [frcM_eq, solveF_eq, e, six_idx h hl] at ht
  simpa using ht
theorem turns_at {R M : List (List Nat)} (h : turns R M = true) (k j : Nat) (hk : k < 6) (hj : j < 6) : xsum 6 (fun l => tim (elem R k l) (elem M l j)) = (if k = j then 1 else 0) ∧ xsum 6 (fun l => tim (elem M k l) (elem R l j)) = (if k = j then 1 else 0) := by
  unfold turns at h
  simp only [Bool.and_eq_true, List.all_eq_true, decide_eq_true_eq] at h
  have := h.2 k (by rw [List.mem_range]; exact hk) j (by rw [List.mem_range]; exact hj)
  simp only [timF_eq] at this
  exact this
theorem turns_wf {R M : List (List Nat)} (h : turns R M = true) : Wf M := by
  unfold turns at h
  simp only [Bool.and_eq_true, List.all_eq_true, decide_eq_true_eq] at h
  refine ⟨h.1.1, fun i hi => ?_⟩
  have hm : rowAt M i ∈ M := by
    unfold rowAt
    rw [List.getD_eq_getElem?_getD, List.getElem?_eq_getElem (by rw [h.1.1]; exact hi)]
    exact List.getElem_mem _
  exact h.1.2 _ hm
theorem elem_frow (IX : List Nat) (k l : Nat) (hk : k < IX.length) (hl : l < 6) : elem (IX.map frow) k l = fac (IX.getD k 0) l := by
  unfold elem
  rw [rowAt_map _ _ hk, frow_get _ _ hl]
theorem strAt_dataK (R : List (List Nat)) (l : List ByteArray) (k i : Nat) (hi : i < k) : strAt (dataK R l k) i = mixS (rowAt R i) l := by
  unfold strAt dataK
  rw [List.getD_eq_getElem?_getD, List.getElem?_map, List.getElem?_range hi]
  rfl
theorem wid_dataK (R : List (List Nat)) (l : List ByteArray) (k : Nat) (hk : 0 < k) : wid (dataK R l k) = wid l := by
  unfold wid
  rw [strAt_dataK _ _ _ _ hk, mixS_size]
  rfl
theorem evenB_dataK (R : List (List Nat)) (l : List ByteArray) (k : Nat) : evenB (dataK R l k) = true := by
  unfold evenB
  rw [List.all_eq_true]
  intro s hs
  have hk : 0 < k := by
    cases k with
    | zero => cases hs
    | succ k => omega
  rw [wid_dataK _ _ _ hk]
  obtain ⟨i, _, rfl⟩ := List.mem_map.1 hs
  rw [mixS_size]
  simp
theorem strAt_wid {l : List ByteArray} (he : evenB l = true) {k : Nat} (hk : k < l.length) : (strAt l k).size = wid l := evenB_size he (by rw [strAt_eq hk]; exact List.getElem_mem hk)
theorem accAt_fac (i : Nat) (l : List ByteArray) (p : Nat) : accAt (frow i) l 6 p = xsum 6 fun j => tim (fac i j) (byt (strAt l j) p) := by
  unfold accAt
  exact xsum_congr _ _ _ fun j hj => by rw [frow_get i j hj]
theorem accAt_elem (M : List (List Nat)) (i : Nat) (l : List ByteArray) (p : Nat) : accAt (rowAt M i) l 6 p = xsum 6 fun j => tim (elem M i j) (byt (strAt l j) p) := rfl
theorem data_back (h : List Bool) (hl : h.length = 9) (h6 : 6 ≤ (idx h).length) (d l6 : List ByteArray) (hd : d.length = 6) (he : evenB d = true) (hl6 : l6.length = 6) (hs : ∀ k, k < 6 → strAt l6 k = mixS (frow (((idx h).take 6).getD k 0)) d) :
    dataK (solveN (((idx h).take 6).map frow)) l6 6 = d := by
  have ht := turned h hl h6
  have hil : ((idx h).take 6).length = 6 := by rw [List.length_take]; omega
  generalize (idx h).take 6 = IX at *
  generalize hM : solveN (IX.map frow) = M at *
  have hw := turns_wf ht
  have hwl : wid l6 = wid d := by
    show (strAt l6 0).size = _
    rw [hs 0 (by omega), mixS_size]
  apply List.ext_getElem
  · rw [dataK_len, hd]
  · intro k h0 h2
    have h1 := h0
    rw [dataK_len] at h1
    have e0 : (dataK M l6 6)[k] = mixS (rowAt M k) l6 := by simp [dataK]
    refine e0.trans (Eq.trans ?_ (strAt_eq h2))
    refine str_ext (by rw [mixS_size, hwl, strAt_wid he h2]) fun p hp => ?_
    rw [mixS_size] at hp
    have hp6 : p < wid d := by rw [← hwl]; exact hp
    rw [byt_mix _ _ _ hp, hl6, accAt_elem]
    have e1 : ∀ j, j < 6 → byt (strAt l6 j) p = xsum 6 fun m => tim (elem (IX.map frow) j m) (byt (strAt d m) p) := fun j hj => by
      rw [hs j hj, byt_mix _ _ _ hp6, hd, accAt_fac]
      exact xsum_congr _ _ _ fun m hm => by rw [elem_frow IX j m (by omega) hm]
    rw [xsum_congr 6 _ (fun j => tim (elem M k j) (xsum 6 fun m => tim (elem (IX.map frow) j m) (byt (strAt d m) p))) (fun j hj => congrArg (tim (elem M k j)) (e1 j hj))]
    rw [dot_assoc 6 6 _ _ _ (fun j hj => elem_le hw h1 hj) (fun j m hj hm => by rw [elem_frow IX j m (by omega) hm]; exact fac_le _ _) (fun m _ => byt_le _ _)]
    rw [xsum_congr 6 _ (fun m => tim (if k = m then 1 else 0) (byt (strAt d m) p)) (fun m hm => by rw [(turns_at ht k m h1 hm).2])]
    rw [xsum_unit 6 k _ (fun j _ => byt_le _ _), if_pos h1]
theorem strAt_enc (d : List ByteArray) (i : Nat) (hi : i < 9) : strAt (encL d) i = mixS (frow i) d := by
  unfold strAt encL
  rw [List.getD_eq_getElem?_getD, List.getElem?_map, List.getElem?_range hi]
  rfl
theorem enc_data (d : List ByteArray) (hd : d.length = 6) (he : evenB d = true) (i : Nat) (hi : i < 6) : mixS (frow i) d = strAt d i := by
  refine str_ext (by rw [mixS_size, strAt_wid he (by omega)]) fun p hp => ?_
  rw [mixS_size] at hp
  rw [byt_mix _ _ _ hp, hd, accAt_fac]
  rw [xsum_congr 6 _ (fun j => tim (if i = j then 1 else 0) (byt (strAt d j) p)) (fun j hj => by
    have : fac i j = if i = j then 1 else 0 := by unfold fac; rw [if_neg (by omega)]
    rw [this])]
  rw [xsum_unit 6 i _ (fun j _ => byt_le _ _), if_pos hi]
theorem enc_take (d : List ByteArray) (hd : d.length = 6) (he : evenB d = true) : (encL d).take 6 = d := by
  apply List.ext_getElem
  · rw [List.length_take, encL_len, hd]; rfl
  · intro i h1 h2
    have hi : i < 6 := by omega
    rw [← strAt_eq h2, ← enc_data d hd he i hi, ← strAt_enc d i (by omega), List.getElem_take, strAt_eq (by rw [encL_len]; omega)]
theorem isB_enc (d : List ByteArray) (hd : d.length = 6) (he : evenB d = true) : isB (encL d) = true := by
  unfold isB
  rw [enc_take d hd he, encL_len, he]
  simp
theorem fillR_ok {l : List ByteArray} {h : List Bool} (hl : l.length = 9) (hh : h.length = 9) (he : evenB (leftL l h) = true) (h6 : 6 ≤ (idx h).length) : fillR l h = (encL (dataL l h), 0) := by
  unfold fillR
  rw [if_pos ⟨hl, hh⟩, if_pos he, if_neg (by omega)]
  unfold encR
  rw [if_pos ⟨dataK_len _ _ _, evenB_dataK _ _ _⟩]
theorem idx_mem {h : List Bool} {i : Nat} (hi : i ∈ idx h) : i < h.length ∧ h.getD i false = true := by
  have h1 := List.mem_filter.1 hi
  exact ⟨by simpa using h1.1, by simpa using h1.2⟩
theorem fillR_code {d : List ByteArray} (hd : d.length = 6) (he : evenB d = true) {l : List ByteArray} {h : List Bool} (hl : l.length = 9) (hh : h.length = 9) (hs : ∀ i, i < 9 → h.getD i false = true → strAt l i = strAt (encL d) i) :
    fillR l h = if (idx h).length < 6 then ([], 2) else (encL d, 0) := by
  have hsz : ∀ i ∈ idx h, (strAt l i).size = wid d := fun i hi => by
    have hm := idx_mem hi
    rw [hs i (by omega) hm.2, strAt_enc d i (by omega), mixS_size]
  have hev : evenB (leftL l h) = true := by
    unfold evenB
    rw [List.all_eq_true]
    intro s hsm
    obtain ⟨i, hi, rfl⟩ := List.mem_map.1 hsm
    have hpos : 0 < (idx h).length := List.length_pos_of_mem hi
    have hw : wid (leftL l h) = wid d := by
      unfold wid leftL
      rw [strAt_map _ _ _ hpos]
      exact hsz _ (mem_get hpos)
    rw [hw, hsz i hi]
    simp
  by_cases h6 : (idx h).length < 6
  · rw [if_pos h6]
    unfold fillR
    rw [if_pos ⟨hl, hh⟩, if_pos hev, if_pos h6]
  · rw [if_neg h6, fillR_ok hl hh hev (by omega)]
    have hdl : dataL l h = d := by
      unfold dataL
      refine data_back h hh (by omega) d _ hd he (by rw [List.length_take]; unfold leftL; rw [List.length_map]; omega) fun k hk => ?_
      have e1 : strAt ((leftL l h).take 6) k = strAt (leftL l h) k := by
        unfold strAt
        rw [List.getD_eq_getElem?_getD, List.getD_eq_getElem?_getD, List.getElem?_take, if_pos hk]
      rw [e1, getD_take _ _ _ hk]
      unfold leftL
      rw [strAt_map _ _ _ (by omega)]
      have hm := idx_mem (mem_get (P := idx h) (i := k) (by omega))
      rw [hs _ (by omega) hm.2, strAt_enc d _ (by omega)]
    rw [hdl]
end Go.Proofs.Ytlaflbjlgkdacaa
end
section
namespace Go.Proofs.Ytlaflbjlgkdacaa
open Go.RowKit Q Go.Proofs.YtlaflbjlgkdacaaW.PrintWords Go.Proofs.YtlaflbjlgkdacaaW.PrintLast Go.Proofs.YtlaflbjlgkdacaaW.PrintMore
theorem C_cells {α : Type} {enc : α → Value} {h1 : ∀ x, (enc x).oneCell' = true} {w : World} {g T : Nat} {cs : Array Value} {fz : Nat × Nat} (h : w.heap[g]? = some (.cells cs T fz)) (xs : List α) (he : cs = (xs.map enc).toArray) (hn : xs.length ≤ 9223372036854775807) : Kd.C (Kd.scalar enc h1) w (some ⟨g, 0, none⟩) xs.length xs := by
  refine ⟨rfl, hn, fun _ => ⟨_, rfl, fun j p hj => ⟨[enc p], rfl, rfl, fun i u hu => ?_⟩⟩⟩
  have hi : i = 0 := by
    rcases i with _ | i
    · rfl
    · simp at hu
  subst hi
  have hu : enc p = u := by simpa using hu
  subst hu
  have ha : (⟨g, 0, none⟩ : Addr).add (j * (Kd.scalar enc h1).sz + 0) = ⟨g, j, none⟩ := by
    show (⟨g, 0, none⟩ : Addr).add (j * 1 + 0) = _
    rw [Nat.mul_one, Nat.add_zero]
    exact add_plain g j
  rw [ha]
  simp [World.cell?, h, he, hj]
def d6 : List ByteArray := [⟨#[97]⟩, ⟨#[98]⟩, ⟨#[99]⟩, ⟨#[100]⟩, ⟨#[101]⟩, ⟨#[102]⟩]
theorem d6_even : evenB d6 = true := by decide
theorem d6_enc : encR d6 = (encL d6, 0) := by unfold encR; rw [if_pos ⟨rfl, d6_even⟩]
def h6L : List Bool := [false, false, false, true, true, true, true, true, true]
def l9 : List ByteArray := [⟨#[]⟩, ⟨#[]⟩, ⟨#[]⟩, strAt (encL d6) 3, strAt (encL d6) 4, strAt (encL d6) 5, strAt (encL d6) 6, strAt (encL d6) 7, strAt (encL d6) 8]
theorem l9_fill : fillR l9 h6L = (encL d6, 0) := by
  rw [fillR_code (d := d6) rfl d6_even rfl rfl (fun i hi hh => ?_)]
  · rw [if_neg (by decide)]
  · match i, hi with
    | 0, _ => cases hh
    | 1, _ => cases hh
    | 2, _ => cases hh
    | 3, _ => rfl
    | 4, _ => rfl
    | 5, _ => rfl
    | 6, _ => rfl
    | 7, _ => rfl
    | 8, _ => rfl
def hN : List Bool := [false, false, false, false, false, false, false, false, false]
theorem none_fill : fillR (encL d6) hN = ([], 2) := by
  rw [fillR_code (d := d6) rfl d6_even (encL_len _) rfl (fun i hi hh => ?_)]
  · rw [if_pos (by decide)]
  · match i, hi with
    | 0, _ => cases hh
    | 1, _ => cases hh
    | 2, _ => cases hh
    | 3, _ => cases hh
    | 4, _ => cases hh
    | 5, _ => cases hh
    | 6, _ => cases hh
    | 7, _ => cases hh
    | 8, _ => cases hh
theorem nine_enc : encR (encL d6) = ([], 1) := by unfold encR; rw [if_neg (by rw [encL_len]; rintro ⟨h, _⟩; cases h)]
theorem fac60 : fac 6 0 = 122 := by decide +kernel
theorem makeN (w : World) : (Instr.makeSlice 38 (.int .i64 9) (.int .i64 9)).run Try.prog w = .ok (.slice (some ⟨w.heap.size, 0, none⟩) 9 9) (w.alloc (.cells (hN.map Value.bool).toArray 4)) := by kernel_rfl
theorem is_nil (A : Option Addr) (c : Nat) (w : World) (hc : 9 ≤ c) : Calls Try.prog 15 #[.pointer none, .slice A 9 c] w fun e w' => e = .returned (.bool false) ∧ w = w' := by
  go_enter Try.func15, Try.ntmps15
  go_wp2_with (go_at_call 12; refine (encode_nil _ _).mono ?_; rintro e w' ⟨rfl, rfl⟩)
  go_ret
  exact ⟨rfl, rfl⟩
theorem enc_size (d : List ByteArray) (b : Nat) (hw : wid d ≤ b) : ∀ s ∈ encL d, s.size ≤ b := by
  intro s hs
  obtain ⟨i, _, rfl⟩ := List.mem_map.1 hs
  rw [mixS_size]
  exact hw
theorem e_size : ∀ i, i < 9 → (strAt (encL d6) i).size = 1 := by
  intro i hi
  rw [strAt_enc d6 i hi, mixS_size]
  rfl
theorem l9_size : ∀ s ∈ l9, s.size ≤ 140737488355328 := by
  have h3 := e_size 3 (by decide)
  have h4 := e_size 4 (by decide)
  have h5 := e_size 5 (by decide)
  have h6 := e_size 6 (by decide)
  have h7 := e_size 7 (by decide)
  have h8 := e_size 8 (by decide)
  intro s hs
  unfold l9 at hs
  simp only [List.mem_cons, List.not_mem_nil, or_false] at hs
  have h0 : (⟨#[]⟩ : ByteArray).size = 0 := rfl
  rcases hs with rfl | rfl | rfl | rfl | rfl | rfl | rfl | rfl | rfl <;> omega
theorem told_c {base : Nat} {r : List ByteArray} {n : Int} {k : Nat} (hk : r.length = k) {w : World} {e : Ending} {w' : World} (h : Told base (r, n) w e w') : ∃ A c, e = .returned (.tuple #[.slice A k c, .int .i64 n]) ∧ Kd.C Kd.string w' A k r ∧ k ≤ c ∧ Below base w w' := by
  obtain ⟨A, c, he, hO, hB⟩ := h
  have h2 := Kd.R_reads' hO
  refine ⟨A, c, ?_, ?_, ?_, hB⟩
  · rw [he, ← hk]
  · rw [← hk]; exact h2.2.2
  · rw [← hk]; exact h2.2.1
theorem own_at {base : Nat} {A : Option Addr} {n c : Nat} {r : List ByteArray} {w : World} (h : RS base (.slice A n c) r w) (h0 : 0 < r.length) : ∃ g, A = some ⟨g, 0, none⟩ := by
  have ho := Kd.own_of_R (h1 := fun _ => rfl) h
  rcases ho.2 with ⟨_, e⟩ | ⟨g1, cap, cur, hv, _⟩
  · omega
  · injection hv with e1
    exact ⟨g1, e1⟩
theorem C_at9 {w : World} {A : Option Addr} {k : Nat} {r : List ByteArray} (hk : r.length = k) (h : Kd.C Kd.string w A k r) : Kd.C Kd.string w A r.length r := by rw [hk]; exact h
theorem exE {g : Nat} {w : World} (hI : IsTab w g) (gl : Nat) (hl : w.heap[gl]? = some (.cells (d6.map Value.string).toArray 9 (0, 0))) : Calls Try.prog 12 #[.pointer (some ⟨g, 0, none⟩), .slice (some ⟨gl, 0, none⟩) 6 6] w fun e w' => ∃ gE c, e = .returned (.tuple #[.slice (some ⟨gE, 0, none⟩) 9 c, .int .i64 0]) ∧ Kd.C Kd.string w' (some ⟨gE, 0, none⟩) 9 (encL d6) ∧ 9 ≤ c ∧ Below w.heap.size w w' := by
  have := encode_calls g (some ⟨gl, 0, none⟩) 6 d6 w hI (C_cells hl d6 rfl (by decide)) (by decide) (by decide)
  rw [d6_enc] at this
  refine this.mono fun e w' h => ?_
  obtain ⟨A, c, he, hC, hc, hb⟩ := told_c (encL_len d6) h
  obtain ⟨A2, c2, he2, hO, _⟩ := h
  obtain ⟨gE, hg⟩ := own_at hO (by rw [encL_len]; decide)
  rw [he] at he2
  injection he2 with he2
  injection he2 with he2
  have e3 : A = A2 := by
    simp at he2
    exact he2.1
  subst e3
  subst hg
  exact ⟨gE, c, he, hC, hc, hb⟩
theorem exF {g : Nat} {w : World} (hI : IsTab w g) (gl gh : Nat) (hl : w.heap[gl]? = some (.cells (l9.map Value.string).toArray 9 (0, 0))) (hh : w.heap[gh]? = some (.cells (h6L.map Value.bool).toArray 4 (0, 0))) : Calls Try.prog 17 #[.pointer (some ⟨g, 0, none⟩), .slice (some ⟨gl, 0, none⟩) 9 9, .slice (some ⟨gh, 0, none⟩) 9 9] w fun e w' => ∃ A c, e = .returned (.tuple #[.slice A 9 c, .int .i64 0]) ∧ Kd.C Kd.string w' A 9 (encL d6) ∧ 9 ≤ c ∧ Below w.heap.size w w' := by
  have := fill_calls g (some ⟨gl, 0, none⟩) 9 l9 (some ⟨gh, 0, none⟩) 9 h6L w hI (C_cells hl l9 rfl (by decide)) (by decide) l9_size (C_cells hh h6L rfl (by decide)) (by decide)
  rw [l9_fill] at this
  exact this.mono fun e w' h => told_c (encL_len d6) h
theorem exN {g : Nat} {w : World} (hI : IsTab w g) (A : Option Addr) (c : Nat) (hC : Kd.C Kd.string w A 9 (encL d6)) (hc : 9 ≤ c) (gh : Nat) (hh : w.heap[gh]? = some (.cells (hN.map Value.bool).toArray 4 (0, 0))) : Calls Try.prog 17 #[.pointer (some ⟨g, 0, none⟩), .slice A 9 c, .slice (some ⟨gh, 0, none⟩) 9 9] w fun e w' => ∃ A c, e = .returned (.tuple #[.slice A 0 c, .int .i64 2]) ∧ Below w.heap.size w w' := by
  have := fill_calls g A c (encL d6) (some ⟨gh, 0, none⟩) 9 hN w hI (C_at9 (encL_len _) hC) (by rw [encL_len]; exact hc) (enc_size d6 _ (by decide)) (C_cells hh hN rfl (by decide)) (by decide)
  rw [none_fill, encL_len] at this
  exact this.mono fun e w' h => by
    obtain ⟨A1, c1, e1, _, _, h4⟩ := told_c (r := []) (k := 0) rfl h
    exact ⟨A1, c1, e1, h4⟩
theorem ex9 {g : Nat} {w : World} (hI : IsTab w g) (A : Option Addr) (c : Nat) (hC : Kd.C Kd.string w A 9 (encL d6)) (hc : 9 ≤ c) : Calls Try.prog 12 #[.pointer (some ⟨g, 0, none⟩), .slice A 9 c] w fun e w' => ∃ A c, e = .returned (.tuple #[.slice A 0 c, .int .i64 1]) ∧ Below w.heap.size w w' := by
  have := encode_calls g A c (encL d6) w hI (C_at9 (encL_len _) hC) (by rw [encL_len]; exact hc) (enc_size d6 _ (by decide))
  rw [nine_enc, encL_len] at this
  exact this.mono fun e w' h => by
    obtain ⟨A1, c1, e1, _, _, h4⟩ := told_c (r := []) (k := 0) rfl h
    exact ⟨A1, c1, e1, h4⟩
theorem exS {w : World} (A B : Option Addr) (c d : Nat) (hA : Kd.C Kd.string w A 9 (encL d6)) (hc : 9 ≤ c) (hB : Kd.C Kd.string w B 9 (encL d6)) (hd : 9 ≤ d) : Calls Try.prog 14 #[.slice A 9 c, .slice B 9 d] w fun e w' => e = .returned (.bool true) ∧ Below w.heap.size w w' := by
  have := sluicegateref02_Same.calls 10 A c (encL d6) B d (encL d6) _ w (C_at9 (encL_len _) hA) (by rw [encL_len]; exact hc) (C_at9 (encL_len _) hB) (by rw [encL_len]; exact hd) (same_f _ _ (by rw [encL_len]; omega) 10 (by rw [encL_len]; omega))
  rw [encL_len, decide_eq_true rfl] at this
  exact this.mono fun e w' h => ⟨h.1, h.2.below⟩
theorem exI {g : Nat} {w : World} (hI : IsTab w g) (A : Option Addr) (c : Nat) (hC : Kd.C Kd.string w A 9 (encL d6)) (hc : 9 ≤ c) : Calls Try.prog 15 #[.pointer (some ⟨g, 0, none⟩), .slice A 9 c] w fun e w' => e = .returned (.bool true) ∧ Below w.heap.size w w' := by
  have := is_calls g A c (encL d6) w hI (C_at9 (encL_len _) hC) (by rw [encL_len]; exact hc) (enc_size d6 _ (by decide))
  rw [isB_enc d6 rfl d6_even, encL_len] at this
  exact this
theorem e_at {w W : World} {gE : Nat} (h : Kd.C Kd.string w (some ⟨gE, 0, none⟩) 9 (encL d6)) (b : Below w.heap.size w W) (i : Nat) (hi : i < 9) : W.cell? ⟨gE, i, none⟩ = some (.string (strAt (encL d6) i)) := by
  have := str_now (l := encL d6) (C_at9 (encL_len _) h) b ⟨by rw [encL_len]; exact hi, rfl⟩
  rwa [add_plain] at this
theorem live_l9 (w3 : World) : (((w3.alloc (.cells (h6L.map Value.bool).toArray 4)).alloc (.cells (l9.map Value.string).toArray 9)).drew).heap[w3.heap.size + 1]? = some (.cells (l9.map Value.string).toArray 9 (0, 0)) := by
  have h := heap_alloc_new (w3.alloc (.cells (h6L.map Value.bool).toArray 4)) (.cells (l9.map Value.string).toArray 9)
  have e : (w3.alloc (.cells (h6L.map Value.bool).toArray 4)).heap.size = w3.heap.size + 1 := by simp
  rw [e] at h
  exact h
theorem live_h6 (w3 : World) : (((w3.alloc (.cells (h6L.map Value.bool).toArray 4)).alloc (.cells (l9.map Value.string).toArray 9)).drew).heap[w3.heap.size]? = some (.cells (h6L.map Value.bool).toArray 4 (0, 0)) := by
  have h := heap_alloc_new w3 (.cells (h6L.map Value.bool).toArray 4)
  exact (Lib.alloc_old (w3.alloc (.cells (h6L.map Value.bool).toArray 4)) _ _ (by simp)).trans h
set_option maxRecDepth 100000 in
set_option maxHeartbeats 2000000 in
theorem live02_calls (w : World) : Calls Try.prog 9 #[] w fun e w' => e = .returned (.bool true) ∧ Below w.heap.size w w' := by
  have hmk := makeN
  go_enter Try.func9, Try.ntmps9
  go_wp2_with fail
  refine (fnew_calls _).mono ?_
  rintro e w1 ⟨g, rfl, I, _, b1⟩
  have I1 := Aside0.mk I
  have B1 := Aside0.mk b1
  clear I b1
  go_wp2_with fail
  refine (exE (I1.out.below (below_alloc (Below.refl _ _) _)) w1.heap.size (heap_alloc_new w1 _)).mono ?_
  rintro e w2 ⟨gE, c, rfl, hC, hc, hb⟩
  have I2 := Aside0.mk ((I1.out.below (below_alloc (Below.refl _ _) _)).below hb)
  have B2 := Aside0.mk (below2 (below_alloc B1.out _) (by simp; exact Nat.le_succ_of_le B1.out.size) hb)
  have HE := Aside0.mk hC
  clear hC hb I1 B1
  go_wp2_with fail
  refine (factor_ok g 6 0 (by decide) (by decide) _ I2.out).mono ?_
  rw [fac60]
  rintro e w3 ⟨rfl, hb⟩
  have I3 := Aside0.mk (I2.out.below hb)
  have B3 := Aside0.mk hb
  have B0 := Aside0.mk (below2 B2.out B2.out.size hb)
  clear hb I2 B2
  go_wp2_with fail
  refine start_ (n := 27) (S := fun w' => w'.cell? ⟨gE, 3, none⟩ = some (.string (strAt (encL d6) 3)) ∧ w'.cell? ⟨gE, 4, none⟩ = some (.string (strAt (encL d6) 4)) ∧ w'.cell? ⟨gE, 5, none⟩ = some (.string (strAt (encL d6) 5)) ∧ w'.cell? ⟨gE, 6, none⟩ = some (.string (strAt (encL d6) 6)) ∧ w'.cell? ⟨gE, 7, none⟩ = some (.string (strAt (encL d6) 7)) ∧ w'.cell? ⟨gE, 8, none⟩ = some (.string (strAt (encL d6) 8))) (ds := [19, 21]) #[false, false, false, false, false, false, false, false, false, false, false, false, false, false, false, false, false, false, false, false, false, false, false, false, false, false, false] (by kernel_rfl) rfl rfl ⟨(e_at HE.out (Below.drew (below_alloc B3.out _)) 3 (by decide)), (e_at HE.out (Below.drew (below_alloc B3.out _)) 4 (by decide)), (e_at HE.out (Below.drew (below_alloc B3.out _)) 5 (by decide)), (e_at HE.out (Below.drew (below_alloc B3.out _)) 6 (by decide)), (e_at HE.out (Below.drew (below_alloc B3.out _)) 7 (by decide)), (e_at HE.out (Below.drew (below_alloc B3.out _)) 8 (by decide))⟩ (fun hHeld => ?_)
  refine pure_ (i := 0) (N := some 36) (v := ?_) (a' := ?_) #[true, false, false, false, false, false, false, false, false, false, false, false, false, false, false, false, false, false, false, false, false, false, false, false, false, false, false] rfl rfl (by kernel_rfl) (fun _ _ _ h => h) (Or.inl ⟨by rfl, ?_⟩) ?_ ?_
  rotate_left
  · intro w'
    go_simp
    with_reducible rfl
  rotate_left
  · simp only [Act.put, List.setIfInBounds_toArray, List.set_cons_zero, List.set_cons_succ]
    rfl
  refine pure_ (i := 1) (N := some 37) (v := ?_) (a' := ?_) #[true, true, false, false, false, false, false, false, false, false, false, false, false, false, false, false, false, false, false, false, false, false, false, false, false, false, false] rfl rfl (by kernel_rfl) (fun _ _ _ h => h) (Or.inl ⟨by rfl, ?_⟩) ?_ ?_
  rotate_left
  · intro w'
    go_simp
    with_reducible rfl
  rotate_left
  · simp only [Act.put, List.setIfInBounds_toArray, List.set_cons_zero, List.set_cons_succ]
    rfl
  refine pure_ (i := 2) (N := some 38) (v := ?_) (a' := ?_) #[true, true, true, false, false, false, false, false, false, false, false, false, false, false, false, false, false, false, false, false, false, false, false, false, false, false, false] rfl rfl (by kernel_rfl) (fun _ _ _ h => h) (Or.inl ⟨by rfl, ?_⟩) ?_ ?_
  rotate_left
  · intro w'
    go_simp
    with_reducible rfl
  rotate_left
  · simp only [Act.put, List.setIfInBounds_toArray, List.set_cons_zero, List.set_cons_succ]
    rfl
  refine pure_ (i := 4) (N := some 40) (v := ?_) (a' := ?_) #[true, true, true, false, true, false, false, false, false, false, false, false, false, false, false, false, false, false, false, false, false, false, false, false, false, false, false] rfl rfl (by kernel_rfl) (fun _ _ _ h => h) (Or.inl ⟨by rfl, ?_⟩) ?_ ?_
  rotate_left
  · intro w'
    go_simp
    with_reducible rfl
  rotate_left
  · simp only [Act.put, List.setIfInBounds_toArray, List.set_cons_zero, List.set_cons_succ]
    rfl
  refine pure_ (i := 5) (N := some 41) (v := ?_) (a' := ?_) #[true, true, true, false, true, true, false, false, false, false, false, false, false, false, false, false, false, false, false, false, false, false, false, false, false, false, false] rfl rfl (by kernel_rfl) (fun _ _ _ h => h) (Or.inl ⟨by rfl, ?_⟩) ?_ ?_
  rotate_left
  · intro w'
    go_simp
    with_reducible rfl
  rotate_left
  · simp only [Act.put, List.setIfInBounds_toArray, List.set_cons_zero, List.set_cons_succ]
    rfl
  refine pure_ (i := 7) (N := some 43) (v := ?_) (a' := ?_) #[true, true, true, false, true, true, false, true, false, false, false, false, false, false, false, false, false, false, false, false, false, false, false, false, false, false, false] rfl rfl (by kernel_rfl) (fun _ _ _ h => h) (Or.inl ⟨by rfl, ?_⟩) ?_ ?_
  rotate_left
  · intro w'
    go_simp
    with_reducible rfl
  rotate_left
  · simp only [Act.put, List.setIfInBounds_toArray, List.set_cons_zero, List.set_cons_succ]
    rfl
  refine pure_ (i := 8) (N := some 44) (v := ?_) (a' := ?_) #[true, true, true, false, true, true, false, true, true, false, false, false, false, false, false, false, false, false, false, false, false, false, false, false, false, false, false] rfl rfl (by kernel_rfl) (fun _ _ _ h => h) (Or.inl ⟨by rfl, ?_⟩) ?_ ?_
  rotate_left
  · intro w'
    go_simp
    with_reducible rfl
  rotate_left
  · simp only [Act.put, List.setIfInBounds_toArray, List.set_cons_zero, List.set_cons_succ]
    rfl
  refine pure_ (i := 10) (N := some 46) (v := ?_) (a' := ?_) #[true, true, true, false, true, true, false, true, true, false, true, false, false, false, false, false, false, false, false, false, false, false, false, false, false, false, false] rfl rfl (by kernel_rfl) (fun _ _ _ h => h) (Or.inl ⟨by rfl, ?_⟩) ?_ ?_
  rotate_left
  · intro w'
    go_simp
    with_reducible rfl
  rotate_left
  · simp only [Act.put, List.setIfInBounds_toArray, List.set_cons_zero, List.set_cons_succ]
    rfl
  refine pure_ (i := 11) (N := some 47) (v := ?_) (a' := ?_) #[true, true, true, false, true, true, false, true, true, false, true, true, false, false, false, false, false, false, false, false, false, false, false, false, false, false, false] rfl rfl (by kernel_rfl) (fun _ _ _ h => h) (Or.inl ⟨by rfl, ?_⟩) ?_ ?_
  rotate_left
  · intro w'
    go_simp
    with_reducible rfl
  rotate_left
  · simp only [Act.put, List.setIfInBounds_toArray, List.set_cons_zero, List.set_cons_succ]
    rfl
  refine pure_ (i := 13) (N := some 49) (v := ?_) (a' := ?_) #[true, true, true, false, true, true, false, true, true, false, true, true, false, true, false, false, false, false, false, false, false, false, false, false, false, false, false] rfl rfl (by kernel_rfl) (fun _ _ _ h => h) (Or.inl ⟨by rfl, ?_⟩) ?_ ?_
  rotate_left
  · intro w'
    go_simp
    with_reducible rfl
  rotate_left
  · simp only [Act.put, List.setIfInBounds_toArray, List.set_cons_zero, List.set_cons_succ]
    rfl
  refine pure_ (i := 14) (N := some 50) (v := ?_) (a' := ?_) #[true, true, true, false, true, true, false, true, true, false, true, true, false, true, true, false, false, false, false, false, false, false, false, false, false, false, false] rfl rfl (by kernel_rfl) (fun _ _ _ h => h) (Or.inl ⟨by rfl, ?_⟩) ?_ ?_
  rotate_left
  · intro w'
    go_simp
    with_reducible rfl
  rotate_left
  · simp only [Act.put, List.setIfInBounds_toArray, List.set_cons_zero, List.set_cons_succ]
    rfl
  refine pure_ (i := 16) (N := some 52) (v := ?_) (a' := ?_) #[true, true, true, false, true, true, false, true, true, false, true, true, false, true, true, false, true, false, false, false, false, false, false, false, false, false, false] rfl rfl (by kernel_rfl) (fun _ _ _ h => h) (Or.inl ⟨by rfl, ?_⟩) ?_ ?_
  rotate_left
  · intro w'
    go_simp
    with_reducible rfl
  rotate_left
  · simp only [Act.put, List.setIfInBounds_toArray, List.set_cons_zero, List.set_cons_succ]
    rfl
  refine pure_ (i := 17) (N := some 53) (v := ?_) (a' := ?_) #[true, true, true, false, true, true, false, true, true, false, true, true, false, true, true, false, true, true, false, false, false, false, false, false, false, false, false] rfl rfl (by kernel_rfl) (fun _ _ _ h => h) (Or.inl ⟨by rfl, ?_⟩) ?_ ?_
  rotate_left
  · intro w'
    go_simp
    with_reducible rfl
  rotate_left
  · simp only [Act.put, List.setIfInBounds_toArray, List.set_cons_zero, List.set_cons_succ]
    rfl
  refine pure_ (i := 20) (N := some 56) (v := ?_) (a' := ?_) #[true, true, true, false, true, true, false, true, true, false, true, true, false, true, true, false, true, true, false, false, true, false, false, false, false, false, false] rfl rfl (by kernel_rfl) (fun _ _ _ h => h) (Or.inl ⟨by rfl, ?_⟩) ?_ ?_
  rotate_left
  · intro w'
    go_simp
    with_reducible rfl
  rotate_left
  · simp only [Act.put, List.setIfInBounds_toArray, List.set_cons_zero, List.set_cons_succ]
    rfl
  refine take_ (i := 3) (N := some 39) (v := ?_) (a' := ?_) #[true, true, true, true, true, true, false, true, true, false, true, true, false, true, true, false, true, true, false, false, true, false, false, false, false, false, false] rfl rfl (by kernel_rfl) (fun _ _ _ h => h) (Or.inl ⟨by rfl, ?_⟩) hHeld ?_ ?_
  rotate_left
  · rintro w' ⟨s0, s1, s2, s3, s4, s5⟩
    go_simp
    with_reducible rfl
  rotate_left
  · simp only [Act.put, List.setIfInBounds_toArray, List.set_cons_zero, List.set_cons_succ]
    rfl
  refine take_ (i := 6) (N := some 42) (v := ?_) (a' := ?_) #[true, true, true, true, true, true, true, true, true, false, true, true, false, true, true, false, true, true, false, false, true, false, false, false, false, false, false] rfl rfl (by kernel_rfl) (fun _ _ _ h => h) (Or.inl ⟨by rfl, ?_⟩) hHeld ?_ ?_
  rotate_left
  · rintro w' ⟨s0, s1, s2, s3, s4, s5⟩
    go_simp
    with_reducible rfl
  rotate_left
  · simp only [Act.put, List.setIfInBounds_toArray, List.set_cons_zero, List.set_cons_succ]
    rfl
  refine take_ (i := 9) (N := some 45) (v := ?_) (a' := ?_) #[true, true, true, true, true, true, true, true, true, true, true, true, false, true, true, false, true, true, false, false, true, false, false, false, false, false, false] rfl rfl (by kernel_rfl) (fun _ _ _ h => h) (Or.inl ⟨by rfl, ?_⟩) hHeld ?_ ?_
  rotate_left
  · rintro w' ⟨s0, s1, s2, s3, s4, s5⟩
    go_simp
    with_reducible rfl
  rotate_left
  · simp only [Act.put, List.setIfInBounds_toArray, List.set_cons_zero, List.set_cons_succ]
    rfl
  refine take_ (i := 12) (N := some 48) (v := ?_) (a' := ?_) #[true, true, true, true, true, true, true, true, true, true, true, true, true, true, true, false, true, true, false, false, true, false, false, false, false, false, false] rfl rfl (by kernel_rfl) (fun _ _ _ h => h) (Or.inl ⟨by rfl, ?_⟩) hHeld ?_ ?_
  rotate_left
  · rintro w' ⟨s0, s1, s2, s3, s4, s5⟩
    go_simp
    with_reducible rfl
  rotate_left
  · simp only [Act.put, List.setIfInBounds_toArray, List.set_cons_zero, List.set_cons_succ]
    rfl
  refine take_ (i := 15) (N := some 51) (v := ?_) (a' := ?_) #[true, true, true, true, true, true, true, true, true, true, true, true, true, true, true, true, true, true, false, false, true, false, false, false, false, false, false] rfl rfl (by kernel_rfl) (fun _ _ _ h => h) (Or.inl ⟨by rfl, ?_⟩) hHeld ?_ ?_
  rotate_left
  · rintro w' ⟨s0, s1, s2, s3, s4, s5⟩
    go_simp
    with_reducible rfl
  rotate_left
  · simp only [Act.put, List.setIfInBounds_toArray, List.set_cons_zero, List.set_cons_succ]
    rfl
  refine take_ (i := 18) (N := some 54) (v := ?_) (a' := ?_) #[true, true, true, true, true, true, true, true, true, true, true, true, true, true, true, true, true, true, true, false, true, false, false, false, false, false, false] rfl rfl (by kernel_rfl) (fun _ _ _ h => h) (Or.inl ⟨by rfl, ?_⟩) hHeld ?_ ?_
  rotate_left
  · rintro w' ⟨s0, s1, s2, s3, s4, s5⟩
    go_simp
    with_reducible rfl
  rotate_left
  · simp only [Act.put, List.setIfInBounds_toArray, List.set_cons_zero, List.set_cons_succ]
    rfl
  refine last_ (i := 19) (N := some 55) #[true, true, true, true, true, true, true, true, true, true, true, true, true, true, true, true, true, true, true, true, true, false, false, false, false, false, false] rfl rfl (by kernel_rfl) (by decide) (fun K hK => ?_)
  refine value_ (w1 := ?_) (v := ?_) (by rfl) rfl ?_ ?_
  rotate_left 2
  · go_simp
    constructor
    · rfl
    · rfl
  refine hK.out _ _ ?_
  clear hK K
  refine norm_ (a' := ?_) ?_ ?_
  rotate_left
  · show Act.put _ (some 55) _ = _
    simp only [Act.put, List.setIfInBounds_toArray, List.set_cons_zero, List.set_cons_succ]
    rfl
  refine last_ (i := 21) (N := some 57) #[true, true, true, true, true, true, true, true, true, true, true, true, true, true, true, true, true, true, true, true, true, true, false, false, false, false, false] rfl rfl (by kernel_rfl) (by decide) (fun K hK => ?_)
  refine goes_ Try.func17 (by kernel_rfl) rfl #[.pointer (some ⟨g, 0, none⟩), .slice (some ⟨w3.heap.size + 1, 0, none⟩) 9 9, .slice (some ⟨w3.heap.size, 0, none⟩) 9 9] (by rfl) rfl rfl (by simp only [List.map_toArray, List.map_cons, List.map_nil, World.size_drew, World.size_alloc]; rfl) ?_
  refine (exF (I3.out.below (Below.drew (below_alloc (below_alloc (Below.refl _ _) _) _))) (w3.heap.size + 1) w3.heap.size (live_l9 w3) (live_h6 w3)).mono ?_
  rintro e w4 ⟨A4, c4, rfl, hC4, hc4, hb4⟩
  refine ⟨_, rfl, ?_⟩
  refine hK.out _ _ ?_
  clear hK K
  refine norm_ (a' := ?_) ?_ ?_
  rotate_left
  · show Act.put _ (some 57) _ = _
    simp only [Act.put, List.setIfInBounds_toArray, List.set_cons_zero, List.set_cons_succ]
    rfl
  refine pure_ (i := 22) (N := some 35) (v := ?_) (a' := ?_) #[true, true, true, true, true, true, true, true, true, true, true, true, true, true, true, true, true, true, true, true, true, true, true, false, false, false, false] rfl rfl (by kernel_rfl) (fun _ _ _ h => h) (Or.inl ⟨by rfl, ?_⟩) ?_ ?_
  rotate_left
  · intro w'
    go_simp
    with_reducible rfl
  rotate_left
  · simp only [Act.put, List.setIfInBounds_toArray, List.set_cons_zero, List.set_cons_succ]
    rfl
  refine pure_ (i := 23) (N := some 58) (v := ?_) (a' := ?_) #[true, true, true, true, true, true, true, true, true, true, true, true, true, true, true, true, true, true, true, true, true, true, true, true, false, false, false] rfl rfl (by kernel_rfl) (fun _ _ _ h => h) (Or.inl ⟨by rfl, ?_⟩) ?_ ?_
  rotate_left
  · intro w'
    go_simp
    with_reducible rfl
  rotate_left
  · simp only [Act.put, List.setIfInBounds_toArray, List.set_cons_zero, List.set_cons_succ]
    rfl
  refine pure_ (i := 24) (N := some 59) (v := ?_) (a' := ?_) #[true, true, true, true, true, true, true, true, true, true, true, true, true, true, true, true, true, true, true, true, true, true, true, true, true, false, false] rfl rfl (by kernel_rfl) (fun _ _ _ h => h) (Or.inl ⟨by rfl, ?_⟩) ?_ ?_
  rotate_left
  · intro w'
    go_simp
    with_reducible rfl
  rotate_left
  · simp only [Act.put, List.setIfInBounds_toArray, List.set_cons_zero, List.set_cons_succ]
    rfl
  refine pure_ (i := 25) (N := some 7) (v := ?_) (a' := ?_) #[true, true, true, true, true, true, true, true, true, true, true, true, true, true, true, true, true, true, true, true, true, true, true, true, true, true, false] rfl rfl (by kernel_rfl) (fun _ _ _ h => h) (Or.inl ⟨by rfl, ?_⟩) ?_ ?_
  rotate_left
  · intro w'
    go_simp
    with_reducible rfl
  rotate_left
  · simp only [Act.put, List.setIfInBounds_toArray, List.set_cons_zero, List.set_cons_succ]
    rfl
  refine pure_ (i := 26) (N := some 8) (v := ?_) (a' := ?_) #[true, true, true, true, true, true, true, true, true, true, true, true, true, true, true, true, true, true, true, true, true, true, true, true, true, true, true] rfl rfl (by kernel_rfl) (fun _ _ _ h => h) (Or.inl ⟨by rfl, ?_⟩) ?_ ?_
  rotate_left
  · intro w'
    go_simp
    with_reducible rfl
  rotate_left
  · simp only [Act.put, List.setIfInBounds_toArray, List.set_cons_zero, List.set_cons_succ]
    rfl
  refine done_ (by kernel_rfl) ?_
  have bA : Below w3.heap.size w3 ((w3.alloc (.cells (h6L.map Value.bool).toArray 4)).alloc (.cells (l9.map Value.string).toArray 9)).drew := Below.drew (below_alloc (below_alloc (Below.refl _ _) _) _)
  have b34 := below2 bA bA.size hb4
  have I4 := Aside0.mk (I3.out.below b34)
  have B4 := Aside0.mk (below2 B0.out B0.out.size b34)
  have HE4 := Aside0.mk (Kd.C_below (Kd.C_below HE.out B3.out) b34)
  have HX4 := Aside0.mk hC4
  have hc4 := Lib.hid hc4
  have hcl := Lib.hid hc
  have hc6 : 6 ≤ c := by omega
  clear hHeld bA b34 hb4 hC4 I3 B3 B0 HE hc
  go_wp2_with (go_at_call 17; refine (exN (I4.out.below (below_alloc (Below.refl _ _) _)) (some ⟨gE, 0, none⟩) c (Kd.C_below HE4.out (below_alloc (Below.refl _ _) _)) hcl.out w4.heap.size (heap_alloc_new w4 _)).mono ?_; rintro e w5 ⟨A5, c5, rfl, hb5⟩)
  have b45 := below2 (below_alloc (Below.refl _ w4) (.cells (hN.map Value.bool).toArray 4)) (by simp) hb5
  have I5 := Aside0.mk (I4.out.below b45)
  have B5 := Aside0.mk (below2 B4.out B4.out.size b45)
  have HE5 := Aside0.mk (Kd.C_below HE4.out b45)
  have HX5 := Aside0.mk (Kd.C_below HX4.out b45)
  clear b45 hb5 hmk I4 B4 HE4 HX4
  refine (ex9 I5.out (some ⟨gE, 0, none⟩) c HE5.out hcl.out).mono ?_
  rintro e w6 ⟨A6, c6, rfl, hb6⟩
  have I6 := Aside0.mk (I5.out.below hb6)
  have B6 := Aside0.mk (below2 B5.out B5.out.size hb6)
  have HE6 := Aside0.mk (Kd.C_below HE5.out hb6)
  have HX6 := Aside0.mk (Kd.C_below HX5.out hb6)
  clear hb6 I5 B5 HE5 HX5
  go_wp2_with fail
  refine (encode_nil _ _).mono ?_
  rintro e w' ⟨rfl, rfl⟩
  go_wp2_with fail
  refine (exS A4 (some ⟨gE, 0, none⟩) c4 c HX6.out hc4.out HE6.out hcl.out).mono ?_
  rintro e w7 ⟨rfl, hb7⟩
  have I7 := Aside0.mk (I6.out.below hb7)
  have B7 := Aside0.mk (below2 B6.out B6.out.size hb7)
  have HE7 := Aside0.mk (Kd.C_below HE6.out hb7)
  clear hb7 I6 B6 HE6 HX6
  go_wp2_with fail
  refine (exI I7.out (some ⟨gE, 0, none⟩) c HE7.out hcl.out).mono ?_
  rintro e w8 ⟨rfl, hb8⟩
  have B8 := Aside0.mk (below2 B7.out B7.out.size hb8)
  clear hb8 I7 B7 HE7
  go_wp2_with fail
  refine (is_nil _ _ _ hcl.out).mono ?_
  rintro e w' ⟨rfl, rfl⟩
  go_wp2_with fail
  go_ret
  exact ⟨rfl, B8.out⟩
end Go.Proofs.Ytlaflbjlgkdacaa
end
section
namespace Go.Proofs.Ytlaflbjlgkdacaa
open Go.RowKit Q Go.Proofs.YtlaflbjlgkdacaaW.PrintWords Go.Proofs.YtlaflbjlgkdacaaW.PrintLast Go.Proofs.YtlaflbjlgkdacaaW.PrintMore
def smallS (l : List ByteArray) (many long : Int) : Bool := decide (∀ s ∈ l, (s.size : Int) ≤ long) && decide ((l.length : Int) ≤ many)
theorem wrap_suc {n i : Nat} (h : i < n) (hn : n ≤ 9223372036854775807) : wrap64 ((i : Int) + 1) = ((i + 1 : Nat) : Int) := by
  unfold wrap64
  omega
theorem small_l0 (l : List ByteArray) (a b : Int) (hl : l.length ≤ 9223372036854775807) : ∀ m i : Nat, i + m = l.length → sluicegateref02_Small.l0 (m + 1) l a b (i : Int) = some (decide (∀ s ∈ l.drop i, (s.size : Int) ≤ b) && decide ((l.length : Int) ≤ a))
  | 0, i, h => by
    unfold sluicegateref02_Small.l0
    rw [if_neg (by omega), List.drop_eq_nil_of_le (by omega)]
    simp
  | m + 1, i, h => by
    have hi : i < l.length := by omega
    have ih := small_l0 l a b hl m (i + 1) (by omega)
    unfold sluicegateref02_Small.l0
    rw [if_pos (by omega), if_pos (by omega), wrap_suc hi hl, ih, List.drop_eq_getElem_cons hi]
    have hr : rdOf ByteArray.empty l (i : Int) = l[i] := by simp [rdOf, hi]
    rw [hr]
    by_cases hb : (l[i].size : Int) > b
    · rw [if_pos hb, decide_eq_false (fun h2 => by have := h2 _ List.mem_cons_self; omega)]
      rfl
    · rw [if_neg hb]
      congr 2
      simp only [List.mem_cons, forall_eq_or_imp]
      exact decide_eq_decide.mpr ⟨fun h2 => ⟨by omega, h2⟩, fun h2 => h2.2⟩
theorem small12_calls (A : Option Addr) (c : Nat) (l : List ByteArray) (a b : Int) (w : World) (hr : Kd.C Kd.string w A l.length l) (hc : l.length ≤ c) : Calls Try.prog 11 #[.slice A l.length c, .int .i64 a, .int .i64 b] w fun e w' => e = .returned (.bool (smallS l a b)) ∧ Below w.heap.size w w' := by
  have h := small_l0 l a b (Kd.C_max hr) l.length 0 (by omega)
  refine (sluicegateref02_Small.calls (l.length + 1) A c l a b _ w hr hc h).mono ?_
  rintro e w' ⟨rfl, hd⟩
  exact ⟨rfl, hd.below⟩
theorem smallS_has {l : List ByteArray} {a b : Int} (h : smallS l a b = true) : (∀ s ∈ l, (s.size : Int) ≤ b) ∧ (l.length : Int) ≤ a := by
  unfold smallS at h
  rw [Bool.and_eq_true, decide_eq_true_eq, decide_eq_true_eq] at h
  exact h
end Go.Proofs.Ytlaflbjlgkdacaa
end
section
namespace Go.Proofs.Ytlaflbjlgkdacaa
open Go.RowKit Q Go.Proofs.YtlaflbjlgkdacaaW.PrintWords Go.Proofs.YtlaflbjlgkdacaaW.PrintLast Go.Proofs.YtlaflbjlgkdacaaW.PrintMore
theorem wid_small {l : List ByteArray} {b : Nat} (h : ∀ s ∈ l, (s.size : Int) ≤ (b : Int)) : wid l ≤ b := by
  unfold wid
  by_cases h0 : 0 < l.length
  · rw [strAt_eq h0]
    have := h _ (List.getElem_mem h0)
    omega
  · have : l = [] := List.eq_nil_of_length_eq_zero (by omega)
    subst this
    exact Nat.zero_le _
theorem small_sizes {l : List ByteArray} {b : Nat} (h : ∀ s ∈ l, (s.size : Int) ≤ (b : Int)) (hb : b ≤ 140737488355328) : ∀ s ∈ l, s.size ≤ 140737488355328 := fun s hs => by
  have := h s hs
  omega
theorem same_calls (A B : Option Addr) (c d : Nat) (r s : List ByteArray) (w : World) (hA : Kd.C Kd.string w A r.length r) (hc : r.length ≤ c) (hB : Kd.C Kd.string w B s.length s) (hd : s.length ≤ d) (hr : r.length ≤ 1000) : Calls Try.prog 14 #[.slice A r.length c, .slice B s.length d] w fun e w' => e = .returned (.bool (decide (r = s))) ∧ Below w.heap.size w w' := by
  have := sluicegateref02_Same.calls (r.length + 1) A c r B d s _ w hA hc hB hd (same_f _ _ (by omega) _ (by omega))
  exact this.mono fun e w' h => ⟨h.1, h.2.below⟩
end Go.Proofs.Ytlaflbjlgkdacaa
end
section
namespace Go.Proofs.Ytlaflbjlgkdacaa
open Go.RowKit Go.Proofs.YtlaflbjlgkdacaaW.PrintWords
def ArrE {α : Type} (enc : α → Value) (T : TypeId) (z : α) (w : World) (g : Nat) (L : List α) : Prop := ∃ cur, w.heap[g]? = some (.cells cur T (0, 0)) ∧ ∀ i, i < L.length → cur[i]? = some (enc (L.getD i z))
section
variable {α : Type} {enc : α → Value} {T : TypeId} {z : α} {w w' : World} {g : Nat} {L : List α}
theorem ArrE.lt (h : ArrE enc T z w g L) : g < w.heap.size := by
  obtain ⟨cur, hg, _⟩ := h
  exact (Array.getElem?_eq_some_iff.1 hg).1
theorem ArrE.cell (h : ArrE enc T z w g L) (i : Nat) (hi : i < L.length) : w.cell? ⟨g, i, none⟩ = some (enc (L.getD i z)) := by
  obtain ⟨cur, hg, hc⟩ := h
  rw [Lib.cell_of_heap hg]
  exact hc i hi
theorem ArrE.frozen (h : ArrE enc T z w g L) (i : Nat) : w.frozen? ⟨g, i, none⟩ = false := by
  obtain ⟨cur, hg, _⟩ := h
  exact Lib.frozen_of_heap hg i
theorem ArrE.at' (h : ArrE enc T z w g L) (hb : w'.heap[g]? = w.heap[g]?) : ArrE enc T z w' g L := by
  obtain ⟨cur, hg, hc⟩ := h
  exact ⟨cur, hb.trans hg, hc⟩
theorem ArrE.keep (h : ArrE enc T z w g L) (b : Below w.heap.size w w') : ArrE enc T z w' g L := h.at' (b.block g h.lt)
theorem getD_setA (l : List α) (k i : Nat) (x z : α) (hk : k < l.length) : (l.set k x).getD i z = if i = k then x else l.getD i z := by
  rw [List.getD_eq_getElem?_getD, List.getD_eq_getElem?_getD, List.getElem?_set]
  by_cases h : i = k
  · subst h
    rw [if_pos rfl, if_pos hk, if_pos rfl]
    rfl
  · rw [if_neg (fun e => h e.symm), if_neg h]
theorem ArrE.set (h : ArrE enc T z w g L) (k : Nat) (x : α) (hk : k < L.length) : ArrE enc T z (w.setCell ⟨g, k, none⟩ (enc x)) g (L.set k x) := by
  obtain ⟨cur, hg, hc⟩ := h
  refine ⟨cur.setIfInBounds k (enc x), by rw [setCell_eq_setRow w g k cur _ _ _ hg]; exact setRow_heap w g cur _ _ _ hg, fun i hi => ?_⟩
  rw [List.length_set] at hi
  have hks : k < cur.size := (Array.getElem?_eq_some_iff.1 (hc k hk)).1
  rw [getD_setA _ _ _ _ _ hk, Array.getElem?_setIfInBounds]
  by_cases h : i = k
  · subst h
    rw [if_pos rfl, if_pos rfl, if_pos hks]
  · rw [if_neg (fun e => h e.symm), if_neg h]
    exact hc i hi
theorem ArrE.other (h : ArrE enc T z w g L) {b : Nat} (hb : g ≠ b) (k : Nat) (v : Value) : ArrE enc T z (w.setCell ⟨b, k, none⟩ v) g L := h.at' (Below.heap_setCell w ⟨b, k, none⟩ v g hb)
theorem ArrE.C {h1 : ∀ x, (enc x).oneCell' = true} (h : ArrE enc T z w g L) (hn : L.length ≤ 9223372036854775807) : Kd.C (Kd.scalar enc h1) w (some ⟨g, 0, none⟩) L.length L := by
  refine ⟨rfl, hn, fun _ => ⟨_, rfl, fun j p hj => ⟨[enc p], rfl, rfl, fun i u hu => ?_⟩⟩⟩
  have hi : i = 0 := by
    rcases i with _ | i
    · rfl
    · simp at hu
  subst hi
  have hu : enc p = u := by simpa using hu
  subst hu
  have ha : (⟨g, 0, none⟩ : Addr).add (j * (Kd.scalar enc h1).sz + 0) = ⟨g, j, none⟩ := by
    show (⟨g, 0, none⟩ : Addr).add (j * 1 + 0) = _
    rw [Nat.mul_one, Nat.add_zero]
    exact add_plain g j
  rw [ha]
  have hjl : j < L.length := (List.getElem?_eq_some_iff.1 hj).1
  rw [h.cell j hjl, List.getD_eq_getElem?_getD, hj]
  rfl
theorem ArrE.new (w : World) (T : TypeId) (z : α) (L : List α) : ArrE enc T z (w.alloc (.cells (L.map enc).toArray T)) w.heap.size L :=
  ⟨_, heap_alloc_new w _, fun i hi => by simp [List.getD_eq_getElem?_getD, hi]⟩
theorem ArrE.own {base : Nat} {v : Value} {n : Nat} (h : w.ownsRow base T 1 v n (L.map enc)) (hl : L.length = n) (h0 : 0 < n) : ∃ g c, v = .slice (some ⟨g, 0, none⟩) n c ∧ base ≤ g ∧ n ≤ c ∧ ArrE enc T z w g L := by
  rcases h.2 with ⟨_, e⟩ | ⟨g1, cap, cur, hv, hb, hg, hnc, hcm, hcs, htk⟩
  · omega
  · refine ⟨g1, cap, hv, hb, hnc, ⟨cur, hg, fun i hi => ?_⟩⟩
    have e : (L.map enc)[i]? = some (enc (L.getD i z)) := by simp [List.getD_eq_getElem?_getD, hi]
    rw [← htk, List.getElem?_take] at e
    split at e
    · simpa using e
    · cases e
end
end Go.Proofs.Ytlaflbjlgkdacaa
end
section
namespace Go.Proofs.Ytlaflbjlgkdacaa
open Go.RowKit Q Go.Proofs.YtlaflbjlgkdacaaW.PrintWords Go.Proofs.YtlaflbjlgkdacaaW.PrintLast Go.Proofs.YtlaflbjlgkdacaaW.PrintMore
def trues : List Bool := [true, true, true, true, true, true, true, true, true]
abbrev ArrB := ArrE Value.bool 4 false
abbrev ArrS := ArrE Value.string 9 (⟨#[]⟩ : ByteArray)
structure Kept (E : List ByteArray) (h : List Bool) (L : List ByteArray) : Prop where
  lh : h.length = 9
  lL : L.length = 9
  eq : ∀ i, i < 9 → h.getD i false = true → strAt L i = strAt E i
  sz : ∀ s ∈ L, s.size ≤ 1000
theorem Kept.start {E : List ByteArray} (hl : E.length = 9) (hz : ∀ s ∈ E, s.size ≤ 1000) : Kept E trues E := ⟨rfl, hl, fun _ _ _ => rfl, hz⟩
theorem Kept.step {E : List ByteArray} {h : List Bool} {L : List ByteArray} (hk : Kept E h L) (k : Nat) (hk9 : k < 9) (j : ByteArray) (hj : j.size ≤ 1000) : Kept E (h.set k false) (L.set k j) where
  lh := by rw [List.length_set]; exact hk.lh
  lL := by rw [List.length_set]; exact hk.lL
  eq := fun i hi ht => by
    rw [getD_setA _ _ _ _ _ (by rw [hk.lh]; exact hk9)] at ht
    by_cases hik : i = k
    · rw [if_pos hik] at ht
      cases ht
    · rw [if_neg hik] at ht
      unfold strAt
      rw [getD_setA _ _ _ _ _ (by rw [hk.lL]; exact hk9), if_neg hik]
      exact hk.eq i hi ht
  sz := fun s hs => by
    rcases List.mem_or_eq_of_mem_set hs with hs | rfl
    · exact hk.sz s hs
    · exact hj
theorem news_of {w : World} {gE : Nat} {E : List ByteArray} (h : Kd.C Kd.string w (some ⟨gE, 0, none⟩) 9 E) (hE : E.length = 9) : ∀ j u, (E.map Value.string)[j]? = some u → w.cell? ((⟨gE, 0, none⟩ : Addr).add j) = some u := by
  intro j u hj
  rw [List.getElem?_map, Option.map_eq_some_iff] at hj
  obtain ⟨s, hs, rfl⟩ := hj
  have hjl : j < E.length := (List.getElem?_eq_some_iff.1 hs).1
  obtain ⟨ad, e, hc⟩ := strs_at (C_at9 hE h) j hjl
  cases e
  rw [hc, strAt_eq hjl]
  rw [List.getElem?_eq_getElem hjl] at hs
  injection hs with hs
  rw [hs]
theorem encode_ok {g : Nat} {w : World} (hI : IsTab w g) (A : Option Addr) (c : Nat) (l : List ByteArray) (hC : Kd.C Kd.string w A l.length l) (hc : l.length ≤ c) (hz : ∀ s ∈ l, s.size ≤ 140737488355328) (h6 : l.length = 6) (he : evenB l = true) : Calls Try.prog 12 #[.pointer (some ⟨g, 0, none⟩), .slice A l.length c] w fun e w' => ∃ gE c, e = .returned (.tuple #[.slice (some ⟨gE, 0, none⟩) 9 c, .int .i64 0]) ∧ Kd.C Kd.string w' (some ⟨gE, 0, none⟩) 9 (encL l) ∧ 9 ≤ c ∧ Below w.heap.size w w' := by
  have := encode_calls g A c l w hI hC hc hz
  rw [show encR l = (encL l, 0) by unfold encR; rw [if_pos ⟨h6, he⟩]] at this
  refine this.mono fun e w' h => ?_
  obtain ⟨A, c, he, hC, hc, hb⟩ := told_c (encL_len l) h
  obtain ⟨A2, c2, he2, hO, _⟩ := h
  obtain ⟨gE, hg⟩ := own_at hO (by rw [encL_len]; decide)
  rw [he] at he2
  injection he2 with he2
  injection he2 with he2
  have e3 : A = A2 := by
    simp at he2
    exact he2.1
  subst e3
  subst hg
  exact ⟨gE, c, he, hC, hc, hb⟩
theorem encode_no {g : Nat} {w : World} (hI : IsTab w g) (A : Option Addr) (c : Nat) (l : List ByteArray) (hC : Kd.C Kd.string w A l.length l) (hc : l.length ≤ c) (hz : ∀ s ∈ l, s.size ≤ 140737488355328) (h6 : ¬ (l.length = 6 ∧ evenB l = true)) : Calls Try.prog 12 #[.pointer (some ⟨g, 0, none⟩), .slice A l.length c] w fun e w' => ∃ A c, e = .returned (.tuple #[.slice A 0 c, .int .i64 1]) ∧ Below w.heap.size w w' := by
  have := encode_calls g A c l w hI hC hc hz
  rw [show encR l = ([], 1) by unfold encR; rw [if_neg h6]] at this
  exact this.mono fun e w' h => by
    obtain ⟨A1, c1, e1, _, _, h4⟩ := told_c (r := []) (k := 0) rfl h
    exact ⟨A1, c1, e1, h4⟩
set_option maxRecDepth 100000 in
set_option maxHeartbeats 4000000 in
theorem codeBack_walk (A0 : Option Addr) (c0 : Nat) (l0 : List ByteArray) (A1 : Option Addr) (c1 : Nat) (l1 : List Int) (a2 : ByteArray) (w : World) {P0 : ByteArray → Prop} {P1 : Int → Prop} {P2 : Prop} (hr0 : Kd.C Kd.string w A0 l0.length l0) (hc0 : l0.length ≤ c0) (_ : ∀ x ∈ l0, P0 x) (hr1 : Kd.C (Kd.int .i64) w A1 l1.length l1) (hc1 : l1.length ≤ c1) (_ : ∀ x ∈ l1, P1 x) (_ : P2) :
    Calls Try.prog 6 #[.slice A0 l0.length c0, .slice A1 l1.length c1, .string a2] w fun e w' => e = .returned (.bool true) ∧ Below w.heap.size w w' := by
  have H0 := Aside0.mk hr0
  have H1 := Aside0.mk hr1
  have C0 := Lib.hid hc0
  have C1 := Lib.hid hc1
  have hm0 : l0.length ≤ 9223372036854775807 := Kd.C_max hr0
  have hm1 : l1.length ≤ 9223372036854775807 := Kd.C_max hr1
  clear hr0 hr1 hc0 hc1
  obtain ⟨i0, hi, hz0, hz1, hz2⟩ := info_parts infoStr
  have HI := Lib.hid hi
  clear hi
  go_enter Try.func6, Try.ntmps6
  go_wp2_with fail
  cases hs0 : smallS l0 6 60 with
  | false =>
    refine (small12_calls A0 c0 l0 6 60 w H0.out C0.out).mono ?_
    rw [hs0]
    rintro e w1 ⟨rfl, b1⟩
    have B1 := Aside0.mk b1
    clear b1 hs0
    go_wp2_with fail
    refine (live02_calls _).mono ?_
    rintro e w2 ⟨rfl, b2⟩
    go_wp2_with fail
    go_ret
    exact ⟨rfl, below2 B1.out B1.out.size b2⟩
  | true =>
    refine (small12_calls A0 c0 l0 6 60 w H0.out C0.out).mono ?_
    rw [hs0]
    rintro e w1 ⟨rfl, b1⟩
    have B1 := Aside0.mk b1
    clear b1
    obtain ⟨z0, n0⟩ := smallS_has hs0
    have Z0 := Aside0.mk (small_sizes (b := 60) z0 (by decide))
    have WD := Lib.hid (wid_small (b := 60) z0)
    clear z0 hs0 n0
    by_cases h9 : 9 < l1.length
    · have t9 : decide ((9 : Int) < (l1.length : Int)) = true := by simp; omega
      go_wp2_with fail
      refine (live02_calls _).mono ?_
      rintro e w2 ⟨rfl, b2⟩
      go_wp2_with fail
      go_ret
      exact ⟨rfl, below2 B1.out B1.out.size b2⟩
    · have t9 : decide ((9 : Int) < (l1.length : Int)) = false := by simp; omega
      have H9 := Lib.hid h9
      clear h9
      by_cases h100 : 100 < a2.size
      · have t100 : decide ((100 : Int) < (a2.size : Int)) = true := by simp; omega
        go_wp2_with fail
        refine (live02_calls _).mono ?_
        rintro e w2 ⟨rfl, b2⟩
        go_wp2_with fail
        go_ret
        exact ⟨rfl, below2 B1.out B1.out.size b2⟩
      · have t100 : decide ((100 : Int) < (a2.size : Int)) = false := by simp; omega
        have HJ : Hid (a2.size ≤ 1000) := Lib.hid (by omega)
        clear h100
        go_wp2_with fail
        refine (fnew_calls _).mono ?_
        rintro e w3 ⟨g, rfl, I, _, b3⟩
        have I3 := Aside0.mk I
        have B3 := Aside0.mk (below2 B1.out B1.out.size b3)
        clear I b3 B1
        go_wp2_with fail
        by_cases hok : l0.length = 6 ∧ evenB l0 = true
        · refine (encode_ok I3.out A0 c0 l0 (Kd.C_below H0.out B3.out) C0.out Z0.out hok.1 hok.2).mono ?_
          rintro e w4 ⟨gE, c4, rfl, hC4, hc4, b4⟩
          have I4 := Aside0.mk (I3.out.below b4)
          have B4 := Aside0.mk (below2 B3.out B3.out.size b4)
          clear b4 I3 B3
          replace hok := Lib.hid hok
          have hE9 := encL_len l0
          have hEz := enc_size l0 60 WD.out
          have FC := Aside0.mk (fun (L : List ByteArray) (h : List Bool) (hk : Kept (encL l0) h L) => fillR_code hok.out.1 hok.out.2 hk.lL hk.lh hk.eq)
          have HA := Aside0.mk hC4
          have HAc := Lib.hid hc4
          clear hC4 hc4
          have KS := Aside0.mk (Kept.start hE9 (fun s hs => Nat.le_trans (hEz s hs) (by decide)))
          generalize encL l0 = E at *
          replace hE9 := Lib.hid hE9
          clear hEz
          go_wp2_with (at_builtin; refine wpList_append_own _ rfl (.tmp 50) (.tmp 51) 30 rfl w4.heap.size 9 i0 (.string ⟨#[]⟩) 1 16 Try.underlying30 HI.out hz0 hz1 hz2 rfl (by decide) (.slice none 0 0) 0 [] rfl (own_nil _ _ _ _) ⟨gE, 0, none⟩ 9 c4 (E.map Value.string) rfl (by rw [List.length_map, hE9.out]) (news_of (Kd.C_below HA.out (below_alloc (Below.refl _ _) _)) hE9.out) (by intro u hu; obtain ⟨s, _, rfl⟩ := List.mem_map.1 hu; rfl) (by unfold maxLen; omega) (by decide) (by simp) ?_; intro v5 w5 hO5 hg5 _; have HO5 := Aside0.mk hO5; have HG5 := Aside0.mk hg5; clear hO5 hg5)
          have b45 : Below w4.heap.size w4 w5 := ((Below.refl _ w4).alloc (Nat.le_refl _) _).grown HG5.out (by simp) (fun k e => by simp [Value.ownBlock] at e)
          have GB := Aside0.mk ((ArrE.new w4 4 false trues).at' (HG5.out.block _ (by simp) (by simp [Value.ownBlock])))
          obtain ⟨gl, cl, hv5, hgl, hcl, hAS⟩ := ArrE.own (enc := Value.string) (z := (⟨#[]⟩ : ByteArray)) (L := E) HO5.out hE9.out (by decide)
          subst hv5
          have GS := Aside0.mk hAS
          have hne : gl ≠ w4.heap.size := by
            rintro rfl
            obtain ⟨cu1, h1, _⟩ := GB.out
            obtain ⟨cu2, h2, _⟩ := GS.out
            rw [h1] at h2
            injection h2 with h2
            injection h2 with _ h2
            exact absurd h2 (by decide)
          have HB := Aside0.mk b45
          have B0w : Aside0 (Below w.heap.size w w4) := B4
          clear b45 hAS HO5 HG5 B4
          have hcl9 := Lib.hid hcl
          have hgl2 := Lib.hid hgl
          have HNE := Lib.hid hne
          obtain ⟨gh, hgh⟩ : ∃ x, w4.heap.size = x := ⟨_, rfl⟩
          rw [hgh] at GB HNE
          rw [hgh]
          have HGH := Lib.hid hgh
          clear hcl hgl hgh hne
          go_loopw [12] (fun i wr => ∃ (k : Nat) (h : List Bool) (L : List ByteArray), k ≤ l1.length ∧ i = .int .i64 k ∧ Aside0 (Kept E h L) ∧ Aside0 (ArrB wr gh h) ∧ Aside0 (ArrS wr gl L) ∧ Aside0 (Below w4.heap.size w4 wr)) (fun i _ => l1.length - (intOf i).toNat)
          case atStart => exact ⟨0, trues, E, Nat.zero_le _, rfl, KS, GB, GS, HB⟩
          case round =>
            clear GB GS HB
            obtain ⟨k, h, L, hk, rfl, KP, GB, GS, HB⟩ := hrel
            by_cases hlt : k < l1.length
            · have HL := Lib.hid hlt
              obtain ⟨ad, hA1, hx⟩ := Kd.at_int H1.out (k : Int) (by omega) (by omega)
              subst hA1
              rw [Int.toNat_natCast] at hx
              have HW : Below w.heap.size w wr := below2 B0w.out B0w.out.size HB.out
              have hxl := World.block_lt_of_cell? _ _ hx
              have hx1 := (HW.cell hxl).trans hx
              generalize rd l1 (k : Int) = x at hx hx1
              by_cases hin : 0 ≤ x ∧ x < 9
              · obtain ⟨hx0, hx9⟩ := hin
                obtain ⟨m, rfl⟩ := Int.eq_ofNat_of_zero_le hx0
                have hm9 : m < 9 := by omega
                have cb := GB.out.cell m (by rw [KP.out.lh]; exact hm9)
                have fb := GB.out.frozen m
                have GB2 := GB.out.set m false (by rw [KP.out.lh]; exact hm9)
                have hgs : Below w.heap.size w (wr.setCell ⟨gh, m, none⟩ (.bool false)) := HW.setCell (p := ⟨gh, m, none⟩) (by rw [← HGH.out]; exact B0w.out.size) _
                have hx2 := (hgs.cell hxl).trans hx
                have GS2 := GS.out.other HNE.out m (.bool false)
                have cs := GS2.cell m (by rw [KP.out.lL]; exact hm9)
                have fs := GS2.frozen m
                have GS3 := Aside0.mk (GS2.set m a2 (by rw [KP.out.lL]; exact hm9))
                have GB3 := Aside0.mk (GB2.other (Ne.symm HNE.out) m (.string a2))
                have HB3 := Aside0.mk ((HB.out.setCell (p := ⟨gh, m, none⟩) (by rw [← HGH.out]; exact Nat.le_refl _) (.bool false)).setCell (p := ⟨gl, m, none⟩) hgl2.out (.string a2))
                have KP3 := Aside0.mk (KP.out.step m hm9 a2 HJ.out)
                generalize h.getD m false = zb at cb
                generalize L.getD m (⟨#[]⟩ : ByteArray) = zs at cs
                clear GB2 GS2 hgs HW hx
                go_wp2
                exact ⟨⟨k + 1, h.set m false, L.set m a2, HL.out, by go_num, KP3, GB3, GS3, HB3⟩, by have := HL.out; simp [intOf]; omega⟩
              · clear hx
                by_cases hx0 : 0 ≤ x
                · have hx9 : ¬ x < 9 := by omega
                  clear hin
                  go_wp2
                  exact ⟨⟨k + 1, h, L, HL.out, by go_num, KP, GB, GS, HB⟩, by have := HL.out; simp [intOf]; omega⟩
                · clear hin
                  go_wp2
                  exact ⟨⟨k + 1, h, L, HL.out, by go_num, KP, GB, GS, HB⟩, by have := HL.out; simp [intOf]; omega⟩
            · obtain rfl : k = l1.length := by omega
              clear hlt hk
              go_wp2
              go_loop [13, 14] (fun n i => ∃ k : Nat, k ≤ 9 ∧ i = .int .i64 k ∧ n = .int .i64 ((idxK h k).length : Nat)) (fun _ i => 9 - (intOf i).toNat)
              case atStart => exact ⟨0, by omega, rfl, rfl⟩
              case round =>
                obtain ⟨k, hk, rfl, rfl⟩ := hrel
                have hik := idxK_len h k
                by_cases hlt : k < 9
                · have HL := Lib.hid hlt
                  have hs := idxK_succ h k
                  have cb := GB.out.cell k (by rw [KP.out.lh]; exact hlt)
                  cases hq : h.getD k false with
                  | false =>
                    rw [hq] at cb hs
                    have hs2 : Hid ((idxK h (k + 1)).length = (idxK h k).length) := Lib.hid (by rw [hs]; simp)
                    clear hs hq
                    go_wp2
                    exact ⟨⟨k + 1, HL.out, by go_num, by rw [hs2.out]⟩, by have := HL.out; simp [intOf]; omega⟩
                  | true =>
                    rw [hq] at cb hs
                    have hs2 : Hid ((idxK h (k + 1)).length = (idxK h k).length + 1) := Lib.hid (by rw [hs]; simp)
                    clear hs hq
                    go_wp2
                    exact ⟨⟨k + 1, HL.out, by go_num, by rw [hs2.out]; go_num⟩, by have := HL.out; simp [intOf]; omega⟩
                · obtain rfl : k = 9 := by omega
                  clear hlt hk
                  have hI9 : Hid (idx h = idxK h 9) := Lib.hid (by unfold idx idxK; rw [KP.out.lh])
                  have FL := fill_calls g (some ⟨gl, 0, none⟩) cl L (some ⟨gh, 0, none⟩) 9 h wr (I4.out.below HB.out) (GS.out.C (by rw [KP.out.lL]; decide)) (by rw [KP.out.lL]; exact hcl9.out) (fun s hs => Nat.le_trans (KP.out.sz s hs) (by decide)) (GB.out.C (by rw [KP.out.lh]; decide)) (by rw [KP.out.lh]; exact Nat.le_refl _)
                  rw [FC.out L h KP.out, KP.out.lL, KP.out.lh, hI9.out] at FL
                  have BW : Aside0 (Below w.heap.size w wr) := ⟨below2 B0w.out B0w.out.size HB.out⟩
                  by_cases h6 : (idxK h 9).length < 6
                  · rw [if_pos h6] at FL
                    have FL := Aside0.mk FL
                    go_wp2_with fail
                    refine FL.out.mono ?_
                    rintro e w6 hT
                    obtain ⟨A6, c6, rfl, _, _, b6⟩ := told_c (r := []) (k := 0) rfl hT
                    have B6 := Aside0.mk (below2 BW.out BW.out.size b6)
                    clear hT b6
                    go_wp2_with fail
                    refine (live02_calls _).mono ?_
                    rintro e w7 ⟨rfl, b7⟩
                    go_wp2_with fail
                    go_ret
                    exact ⟨rfl, below2 B6.out B6.out.size b7⟩
                  · rw [if_neg h6] at FL
                    have FL := Aside0.mk FL
                    go_wp2_with fail
                    refine FL.out.mono ?_
                    rintro e w6 hT
                    obtain ⟨A6, c6, rfl, hC6, hc6, b6⟩ := told_c hE9.out hT
                    have B6 := Aside0.mk (below2 BW.out BW.out.size b6)
                    have HC6 := Aside0.mk hC6
                    have HE6 := Aside0.mk (Kd.C_below (Kd.C_below HA.out HB.out) b6)
                    replace hc6 := Lib.hid hc6
                    clear hT b6 hC6
                    have SM := same_calls A6 (some ⟨gE, 0, none⟩) c6 c4 E E w6 (C_at9 hE9.out HC6.out) (by rw [hE9.out]; exact hc6.out) (C_at9 hE9.out HE6.out) (by rw [hE9.out]; exact HAc.out) (by rw [hE9.out]; decide)
                    rw [hE9.out, decide_eq_true rfl] at SM
                    have SM := Aside0.mk SM
                    go_wp2_with fail
                    refine SM.out.mono ?_
                    rintro e w7 ⟨rfl, b7⟩
                    have B7 := Aside0.mk (below2 B6.out B6.out.size b7)
                    clear b7
                    go_wp2_with fail
                    refine (live02_calls _).mono ?_
                    rintro e w8 ⟨rfl, b8⟩
                    go_wp2_with fail
                    go_ret
                    exact ⟨rfl, below2 B7.out B7.out.size b8⟩
        · refine (encode_no I3.out A0 c0 l0 (Kd.C_below H0.out B3.out) C0.out Z0.out hok).mono ?_
          rintro e w4 ⟨A4, c4, rfl, b4⟩
          have B4 := Aside0.mk (below2 B3.out B3.out.size b4)
          clear b4
          replace hok := Lib.hid hok
          go_wp2_with fail
          refine (live02_calls _).mono ?_
          rintro e w5 ⟨rfl, b5⟩
          go_wp2_with fail
          go_ret
          exact ⟨rfl, below2 B4.out B4.out.size b5⟩
end Go.Proofs.Ytlaflbjlgkdacaa
end
