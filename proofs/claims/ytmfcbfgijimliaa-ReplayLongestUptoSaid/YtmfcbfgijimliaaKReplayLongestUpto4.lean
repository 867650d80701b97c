/- Lemmas for the law ReplayLongestUpto, merged out of several texts and cut down to what it names, by a program of this session (some of the first ones are of the words that print.sh wrote for this claim). -/
import Derived.Great.BuildSlice
import Derived.OwnWalkIn
import Derived.Maps.AppendAt
import Derived.RangeFuncNested
import Derived.RangeFuncLeaves
import Derived.Shelf.Abstract
import Derived.TacticsInMore
import Derived.LoopNIn
import Derived.LoopIn
import Derived.Test.YtmfcbfgijimliaaRows
import Derived.Test.YtmfcbfgijimliaaKReplayLongestUpto1
import Derived.Test.YtmfcbfgijimliaaKReplayLongestUpto2
import Derived.Test.YtmfcbfgijimliaaKReplayLongestUpto3
set_option linter.unusedVariables false
set_option linter.unusedSimpArgs false
section
namespace Go.Proofs.Ytmfcbfgijimliaa
open Go.RowKit Q Go.Proofs.YtmfcbfgijimliaaW.PrintWords Go.Proofs.YtmfcbfgijimliaaW.PrintLast Go.Proofs.YtmfcbfgijimliaaW.PrintMore
theorem num_st (s : List UInt8 × Int) (h : s.1.length ≤ 140737488355328) {n : Nat} {t : List UInt8 × Int} (e : nx s = (n, t)) : pack_Reader_Number.f 20 (B s.1) s.2 = some ((n : Int), B t.1, t.2) := by
  have := rnx_f s h
  rw [e] at this
  exact this
theorem txt_st (s : List UInt8 × Int) (h : s.1.length ≤ 140737488355328) {n : List UInt8} {t : List UInt8 × Int} (e : tx s = (n, t)) : pack_Reader_Text.f 21 (B s.1) s.2 = some (B n, B t.1, t.2) := by
  have := rtx_f s h
  rw [e] at this
  exact this
theorem rst_st (s : List UInt8 × Int) {n : List UInt8} {t : List UInt8 × Int} (e : rst s = (n, t)) : pack_Reader_Rest.f (B s.1) s.2 = some (B n, B t.1, t.2) := by
  have := rst_f s
  rw [e] at this
  exact this
theorem nx_st1 {s : List UInt8 × Int} (h : s.1.length ≤ 140737488355328) {n : Nat} {t : List UInt8 × Int} (e : nx s = (n, t)) : t.1.length ≤ 140737488355328 := by
  have := nx_le s
  rw [e] at this
  exact Nat.le_trans this h
theorem tx_st1 {s : List UInt8 × Int} (h : s.1.length ≤ 140737488355328) {n : List UInt8} {t : List UInt8 × Int} (e : tx s = (n, t)) : t.1.length ≤ 140737488355328 := by
  have := tx_le s
  rw [e] at this
  exact Nat.le_trans this h
theorem vol_st1 {s : List UInt8 × Int} (h : s.1.length ≤ 140737488355328) {x : Int × Int × Int × List S83} {t : List UInt8 × Int} (e : volS s = (x, t)) : t.1.length ≤ 140737488355328 := by
  have := volS_le s
  rw [e] at this
  exact Nat.le_trans this h
theorem vol_nine {s : List UInt8 × Int} {vi vg vn : Int} {vl : List S83} {t : List UInt8 × Int} (e : volS s = ((vi, vg, vn, vl), t)) : vl.length = 9 := by
  have : (volS s).1.2.2.2.length = 9 := locsN_len 9 _
  rw [e] at this
  exact this
theorem vol_calls_st (g : Nat) (s : List UInt8 × Int) (w0 w : World) (hs : s.1.length ≤ 140737488355328) (hI : IsS127 w0 w g (B s.1) s.2) (hB : Below w0.heap.size w0 w) {vi vg vn : Int} {vl : List S83} {t : List UInt8 × Int} (e : volS s = ((vi, vg, vn, vl), t)) : Calls Try.prog 64 #[.pointer (some ⟨g, 0, none⟩)] w fun e w' => ∃ (A : Option Addr) (c : Nat), e = .returned (.agg #[.int .i64 vi, .int .i64 vg, .int .i64 vn, .slice A vl.length c]) ∧ Kd.R k83 83 w' w.heap.size (fun k => w.heap.size ≤ k) (.slice A vl.length c) vl ∧ IsS127 w0 w' g (B t.1) t.2 ∧ Below w0.heap.size w0 w' ∧ KeepBut w w' g none := by
  have h := volS_f s 40 (Nat.le_refl _) hs
  rw [e] at h
  refine (record_volume.calls 40 g _ _ _ _ _ _ _ _ w0 w hI hB h).mono ?_
  rintro e w' ⟨x, rfl, hR, hI', hB', hK⟩
  obtain ⟨A, c, rfl⟩ := Kd.R_slice hR
  exact ⟨A, c, rfl, Kd.R_mono (Kd.R_bound hR) (fun k hk => hk.2.1), hI', hB', hK⟩
set_option maxRecDepth 100000 in
set_option maxHeartbeats 4000000 in
theorem recread_own (m : List UInt8) (hm : m.length ≤ 140737488355328) (w : World) : Calls Try.prog 38 #[.string (B m)] w fun e w' => ∃ (A : Option Addr) (c : Nat), e = .returned (.tuple #[.agg (rv (recR m).1 A c), .int .i64 (recR m).2]) ∧ Kd.R k83 83 w' w.heap.size (fun k => w.heap.size ≤ k) (.slice A (recR m).1.locs.length c) (recR m).1.locs ∧ Below w.heap.size w w' := by
  have hu0 := Try.underlying33
  have hu1 := Try.underlying55
  have hu2 := Try.underlying29
  have hu3 := Try.underlying31
  have hu4 := Try.underlying83
  have HO0 := Lib.hid (open_f m hm)
  have HR : Aside0 (Blk (w.alloc (.cells #[.int .i64 0, .int .i64 0, .int .i64 0, .int .i64 0, .int .i64 0, .slice none 0 0, .string ⟨#[]⟩, .int .i64 0, .int .i64 0, .int .i64 0, .string ⟨#[]⟩, .string ⟨#[]⟩, .int .i64 0, .int .i64 0] 55)) w.heap.size #[.int .i64 0, .int .i64 0, .int .i64 0, .int .i64 0, .int .i64 0, .slice none 0 0, .string ⟨#[]⟩, .int .i64 0, .int .i64 0, .int .i64 0, .string ⟨#[]⟩, .string ⟨#[]⟩, .int .i64 0, .int .i64 0] 55) := ⟨Blk.new w _ _⟩
  have HBv : Aside0 (Below w.heap.size w (w.alloc (.cells #[.int .i64 0, .int .i64 0, .int .i64 0, .int .i64 0, .int .i64 0, .slice none 0 0, .string ⟨#[]⟩, .int .i64 0, .int .i64 0, .int .i64 0, .string ⟨#[]⟩, .string ⟨#[]⟩, .int .i64 0, .int .i64 0] 55))) := ⟨below_alloc (Below.refl _ _) _⟩
  go_enter Try.func38, Try.ntmps38
  go_wp2_with fail
  refine Calls.mono (check_Open.calls _ (openL m).1 (openL m).2 _ HO0.out) ?_
  rintro e w1 ⟨rfl, b1⟩
  replace HR := Aside0.mk (HR.out.keep b1)
  replace HBv := Aside0.mk (below2 HBv.out HBv.out.size b1)
  clear b1 HO0
  obtain ⟨o1, e1, ho⟩ : ∃ o1 e1, openL m = (o1, e1) := ⟨_, _, rfl⟩
  rw [ho]
  by_cases he : e1 = 0
  case neg =>
    have HRES : Hid (recR m = (zeroR, e1)) := Lib.hid (by unfold recR; rw [ho, if_neg he])
    have he2 : (e1 != 0) = true := bne_iff_ne.mpr he
    clear he ho
    go_wp2_with (first | (refine gate_ (.store 55 (.tmp 2) (.tmp 16)) rfl ?_; refine wpList_store_row rfl 55 (.tmp 2) (.tmp 16) rfl w.heap.size (rv zeroR none 0) rfl rfl 55 _ HR.out (by kernel_rfl) rfl (rv_one _ _ _) ?_; simp only [Act.put, List.setIfInBounds_toArray, List.set_cons_zero, List.set_cons_succ]))
    refine bodyPost_ret (results_row_tmp rfl _ _ w.heap.size 55 (rv zeroR none 0) (0, 0) _ rfl (setRow_heap _ _ _ _ _ _ HR.out) Try.underlying55 rfl (by kernel_rfl)) rfl ?_
    rw [HRES.out]
    exact ⟨none, 0, rfl, Kd.R_nil _ _ _ _ _, below_setRow' HBv.out (Nat.le_refl _) _⟩
  subst he
  obtain ⟨u, rfl⟩ := exB o1
  have hul : u.length ≤ m.length := by
    rcases openL_cases m with ⟨_, h⟩ | ⟨_, _, h⟩ | ⟨u', h1, h2⟩
    · rw [ho] at h; cases h
    · rw [ho] at h; cases h
    · rw [ho] at h2
      have : u = u' := B_inj (congrArg Prod.fst h2)
      rw [h1, sealL_len, this]
      exact Nat.le_add_right _ _
  have HRES : Hid (recR m = if (cutJ u).2 = true ∧ endE (recS (cutJ u).1).2 = 0 ∧ chkR (recS (cutJ u).1).1 = 0 then ((recS (cutJ u).1).1, 0) else (zeroR, 4)) := Lib.hid (by
    unfold recR
    rw [if_pos (show (openL m).2 = 0 by rw [ho]), ho]
    rfl)
  have hcl : (cutJ u).1.length ≤ 140737488355328 := by
    unfold cutJ
    split
    · rw [List.length_drop]; omega
    · exact Nat.le_trans hul hm
  have HC := Lib.hid (cutJ_f u)
  clear ho hul hm
  obtain ⟨⟨l, isb⟩, hcu⟩ : ∃ p, cutJ u = p := ⟨_, rfl⟩
  rw [hcu] at HRES hcl HC
  simp only at HRES hcl
  clear hcu
  go_wp2_with fail
  refine Calls.mono (strings_CutPrefix.calls _ _ _ _ w1 HC.out) ?_
  rintro e w2 ⟨rfl, hd⟩
  replace HR := Aside0.mk (HR.out.keep hd.below)
  replace HBv := Aside0.mk (below2 HBv.out HBv.out.size hd.below)
  clear hd HC
  go_wp2_with fail
  have hgv : w.heap.size < w2.heap.size := HR.out.lt
  refine Calls.mono (pack_Read.calls (B l) (B l) 0 w2 w2 (Below.refl _ _) rfl) ?_
  rintro e wr ⟨g, rfl, hI, hB, _⟩
  have HI : Aside0 (IsS127 w2 wr g (B (l, (0 : Int)).1) (l, (0 : Int)).2) := ⟨hI⟩
  have HB := Aside0.mk hB
  have hgg : w2.heap.size ≤ g := hI.2
  clear hI hB
  generalize w2 = v at *
  obtain ⟨⟨q, s1⟩, e1⟩ : ∃ p, nx (l, 0) = p := ⟨_, rfl⟩
  obtain ⟨⟨d, s2⟩, e2⟩ : ∃ p, nx s1 = p := ⟨_, rfl⟩
  have hs1 := nx_st1 (s := (l, 0)) hcl e1
  have hs2 := nx_st1 hs1 e2
  have HN1 := Lib.hid (num_st (l, 0) hcl e1)
  have HN2 := Lib.hid (num_st s1 hs1 e2)
  unfold recS at HRES
  rw [e1] at HRES
  simp only at HRES
  rw [e2] at HRES
  simp only at HRES
  clear e1 e2 hcl hs1
  go_wp2_with fail
  refine Calls.mono (pack_Reader_Number.calls 20 g _ _ _ _ _ v _ HI.out HB.out HN1.out) ?_
  rintro e w4 ⟨rfl, hI4, hB4, hK4⟩
  replace HI := Aside0.mk hI4
  replace HB := Aside0.mk hB4
  clear hI4 hB4 hK4
  clear HN1
  go_wp2_with fail
  refine Calls.mono (pack_Reader_Number.calls 20 g _ _ _ _ _ v _ HI.out HB.out HN2.out) ?_
  rintro e w4 ⟨rfl, hI4, hB4, hK4⟩
  replace HI := Aside0.mk hI4
  replace HB := Aside0.mk hB4
  clear hI4 hB4 hK4
  clear HN2
  have hgx : g < w4.heap.size := HI.out.lt
  by_cases hd1 : d = 1
  case pos =>
    have hd0 : ¬ d = 0 := by omega
    obtain ⟨⟨kt, s3⟩, e3⟩ : ∃ p, tx s2 = p := ⟨_, rfl⟩
    have HN3 := Lib.hid (txt_st s2 hs2 e3)
    have hK : recK q d s2 = ((⟨(q : Int), (d : Int), 0, 0, 0, [], ⟨#[]⟩, 0, 0, 0, ⟨#[]⟩, B kt, 0, 0⟩ : RecP), s3) := by unfold recK; rw [if_pos hd1]; simp only [e3]
    rw [hK] at HRES
    simp only at HRES
    clear hK
    have HL9 : Hid ((⟨(q : Int), (d : Int), 0, 0, 0, [], ⟨#[]⟩, 0, 0, 0, ⟨#[]⟩, B kt, 0, 0⟩ : RecP).locs.length ≤ 1000) := Lib.hid (by exact Nat.zero_le _)
    have f1 : ((d : Int) == 1) = true := beq_iff_eq.mpr (by omega)
    have f0 : ((d : Int) == 0) = false := beq_eq_false_iff_ne.mpr (by omega)
    have f2 : ((d : Int) == 2) = false := beq_eq_false_iff_ne.mpr (by omega)
    have f3 : ((d : Int) == 3) = false := beq_eq_false_iff_ne.mpr (by omega)
    clear e3 hd0 hd1 hs2
    go_wp2_with (first | (refine gate_ (.store 55 (.tmp 8) (.tmp 29)) rfl ?_; refine wpList_store_row rfl 55 (.tmp 8) (.tmp 29) rfl w4.heap.size #[.int .i64 (q : Int), .int .i64 (d : Int), .int .i64 0, .int .i64 0, .int .i64 0, .slice none 0 0, .string ⟨#[]⟩, .int .i64 0, .int .i64 0, .int .i64 0, .string ⟨#[]⟩, .string ⟨#[]⟩, .int .i64 0, .int .i64 0] rfl rfl 55 _ (Blk.new _ _ _) (by kernel_rfl) rfl (by simp [Value.oneCell']) ?_; simp only [Act.put, List.setIfInBounds_toArray, List.set_cons_zero, List.set_cons_succ]; have hp := put_new w4 #[.int .i64 0, .int .i64 0, .int .i64 0, .int .i64 0, .int .i64 0, .slice none 0 0, .string ⟨#[]⟩, .int .i64 0, .int .i64 0, .int .i64 0, .string ⟨#[]⟩, .string ⟨#[]⟩, .int .i64 0, .int .i64 0] #[.int .i64 (q : Int), .int .i64 (d : Int), .int .i64 0, .int .i64 0, .int .i64 0, .slice none 0 0, .string ⟨#[]⟩, .int .i64 0, .int .i64 0, .int .i64 0, .string ⟨#[]⟩, .string ⟨#[]⟩, .int .i64 0, .int .i64 0] 55; have HB2 := Aside0.mk (HB.out.trans (hp.2.mono HB.out.size)); have HI2 := Aside0.mk (HI.out.below hp.2); generalize (w4.alloc (.cells #[.int .i64 0, .int .i64 0, .int .i64 0, .int .i64 0, .int .i64 0, .slice none 0 0, .string ⟨#[]⟩, .int .i64 0, .int .i64 0, .int .i64 0, .string ⟨#[]⟩, .string ⟨#[]⟩, .int .i64 0, .int .i64 0] 55)).setRow w4.heap.size #[.int .i64 (q : Int), .int .i64 (d : Int), .int .i64 0, .int .i64 0, .int .i64 0, .slice none 0 0, .string ⟨#[]⟩, .int .i64 0, .int .i64 0, .int .i64 0, .string ⟨#[]⟩, .string ⟨#[]⟩, .int .i64 0, .int .i64 0] = wr at hp HB2 HI2 ⊢; clear HB HI; have HB := HB2; have HI := HI2; clear HB2 HI2; have HH := Aside0.mk hp.1; clear hp; generalize w4.heap.size = gx at HH hgx ⊢; have c1 := HH.out.cell (i := 1) (v := .int .i64 (d : Int)) rfl))
    refine Calls.mono (pack_Reader_Text.calls 21 g _ _ _ _ _ v _ HI.out HB.out HN3.out) ?_
    rintro e w4 ⟨rfl, hI4, hB4, hK4⟩
    replace HI := Aside0.mk hI4
    replace HB := Aside0.mk hB4
    replace HH := Aside0.mk (HH.out.but hK4 (by omega))
    clear hI4 hB4 hK4
    clear HN3
    cases hib : isb with
    | false =>
      replace HRES := Lib.hid (HRES.out.trans (if_neg (fun h => by rw [hib] at h; cases h.1)))
      have hc := HH.out.cell (i := 11) (v := .string ⟨#[]⟩) rfl
      have hf := HH.out.free 11
      replace HB : Aside0 (Below v.heap.size v (w4.setCell ⟨gx, 11, none⟩ (.string (B kt)))) := ⟨HB.out.setCell (p := ⟨gx, 11, none⟩) (by show v.heap.size ≤ gx; omega) (.string (B kt))⟩
      replace HR := Aside0.mk (HR.out.keep HB.out)
      go_wp2_with (first | (refine gate_ (.store 55 (.tmp 2) (.tmp 83)) rfl ?_; refine wpList_store_row rfl 55 (.tmp 2) (.tmp 83) rfl w.heap.size (rv zeroR none 0) rfl rfl 55 _ HR.out (by kernel_rfl) rfl (rv_one _ _ _) ?_; simp only [Act.put, List.setIfInBounds_toArray, List.set_cons_zero, List.set_cons_succ]))
      refine bodyPost_ret (results_row_tmp rfl _ _ w.heap.size 55 (rv zeroR none 0) (0, 0) _ rfl (setRow_heap _ _ _ _ _ _ HR.out) Try.underlying55 rfl (by kernel_rfl)) rfl ?_
      rw [HRES.out]
      exact ⟨none, 0, rfl, Kd.R_nil _ _ _ _ _, below_setRow' (HBv.out.trans (HB.out.mono HBv.out.size)) (Nat.le_refl _) _⟩
    | true =>
      have hc := HH.out.cell (i := 11) (v := .string ⟨#[]⟩) rfl
      have hf := HH.out.free 11
      go_wp2_with fail
      clear hc hf
      have HH2 : Aside0 (Blk (w4.setCell ⟨gx, 11, none⟩ (.string (B kt))) gx #[.int .i64 (q : Int), .int .i64 (d : Int), .int .i64 0, .int .i64 0, .int .i64 0, .slice none 0 0, .string ⟨#[]⟩, .int .i64 0, .int .i64 0, .int .i64 0, .string ⟨#[]⟩, .string (B kt), .int .i64 0, .int .i64 0] 55) := ⟨HH.out.set 11 (.string (B kt))⟩
      have HI2 : Aside0 (IsS127 v (w4.setCell ⟨gx, 11, none⟩ (.string (B kt))) g (B s3.1) s3.2) := ⟨HI.out.far (p := ⟨gx, 11, none⟩) (by show g ≠ gx; omega) (.string (B kt))⟩
      have HB2 : Aside0 (Below v.heap.size v (w4.setCell ⟨gx, 11, none⟩ (.string (B kt)))) := ⟨HB.out.setCell (p := ⟨gx, 11, none⟩) (by show v.heap.size ≤ gx; omega) (.string (B kt))⟩
      generalize w4.setCell ⟨gx, 11, none⟩ (.string (B kt)) = wr at HH2 HI2 HB2 ⊢
      clear HH HI HB
      have HH := HH2
      have HI := HI2
      have HB := HB2
      clear HH2 HI2 HB2
      obtain ⟨r2, HE⟩ : ∃ r2, pack_Reader_End.f (B s3.1) s3.2 = some (endE s3, r2, endE s3) := by rcases rend_f s3 with h | h <;> exact ⟨_, h⟩
      refine Calls.mono (pack_Reader_End.calls g _ _ _ _ _ v _ HI.out HB.out HE) ?_
      clear HE
      rintro e w4 ⟨rfl, hI4, hB4, hK4⟩
      replace HB := Aside0.mk hB4
      have HX : Aside0 (Blk w4 gx (rv (⟨(q : Int), (d : Int), 0, 0, 0, [], ⟨#[]⟩, 0, 0, 0, ⟨#[]⟩, B kt, 0, 0⟩ : RecP) none 0) 55) := ⟨HH.out.but hK4 (by omega)⟩
      clear hI4 hB4 hK4 HI HH
      generalize endE s3 = en at HRES ⊢
      by_cases h1 : en = 0
      case neg =>
        replace HRES := Lib.hid (HRES.out.trans (if_neg (fun h => h1 h.2.1)))
        have h4 : (en != 0) = true := bne_iff_ne.mpr h1
        replace HR := Aside0.mk (HR.out.keep HB.out)
        go_wp2_with (first | (refine gate_ (.store 55 (.tmp 2) (.tmp 83)) rfl ?_; refine wpList_store_row rfl 55 (.tmp 2) (.tmp 83) rfl w.heap.size (rv zeroR none 0) rfl rfl 55 _ HR.out (by kernel_rfl) rfl (rv_one _ _ _) ?_; simp only [Act.put, List.setIfInBounds_toArray, List.set_cons_zero, List.set_cons_succ]))
        refine bodyPost_ret (results_row_tmp rfl _ _ w.heap.size 55 (rv zeroR none 0) (0, 0) _ rfl (setRow_heap _ _ _ _ _ _ HR.out) Try.underlying55 rfl (by kernel_rfl)) rfl ?_
        rw [HRES.out]
        exact ⟨none, 0, rfl, Kd.R_nil _ _ _ _ _, below_setRow' (HBv.out.trans (HB.out.mono HBv.out.size)) (Nat.le_refl _) _⟩
      subst h1
      go_wp2_with (first | (refine gate_ (.load 55 (.tmp 8)) rfl ?_; refine gate_guard (by rfl) ?_; refine wpList_load_row rfl 55 (.tmp 8) rfl gx rfl _ (rv (⟨(q : Int), (d : Int), 0, 0, 0, [], ⟨#[]⟩, 0, 0, 0, ⟨#[]⟩, B kt, 0, 0⟩ : RecP) none 0) (0, 0) _ HX.out Try.underlying55 rfl (by kernel_rfl) ?_; simp only [Act.put, List.setIfInBounds_toArray, List.set_cons_zero, List.set_cons_succ]) | (refine gate_ (.load 55 (.tmp 8)) rfl ?_; refine wpList_load_row rfl 55 (.tmp 8) rfl gx rfl _ (rv (⟨(q : Int), (d : Int), 0, 0, 0, [], ⟨#[]⟩, 0, 0, 0, ⟨#[]⟩, B kt, 0, 0⟩ : RecP) none 0) (0, 0) _ HX.out Try.underlying55 rfl (by kernel_rfl) ?_; simp only [Act.put, List.setIfInBounds_toArray, List.set_cons_zero, List.set_cons_succ]))
      refine (rchk_calls (⟨(q : Int), (d : Int), 0, 0, 0, [], ⟨#[]⟩, 0, 0, 0, ⟨#[]⟩, B kt, 0, 0⟩ : RecP) none 0 w4 (Kd.C_nil _ _) HL9.out (Nat.zero_le _)).mono ?_
      rintro e w5 ⟨rfl, b1⟩
      replace HX := Aside0.mk (HX.out.keep b1)
      replace HB := Aside0.mk (below2 HB.out HB.out.size b1)
      clear b1
      replace HR := Aside0.mk (HR.out.keep HB.out)
      obtain ⟨ck, hck⟩ : ∃ z, chkR (⟨(q : Int), (d : Int), 0, 0, 0, [], ⟨#[]⟩, 0, 0, 0, ⟨#[]⟩, B kt, 0, 0⟩ : RecP) = z := ⟨_, rfl⟩
      rw [hck] at HRES ⊢
      clear hck
      by_cases h2 : ck = 0
      case neg =>
        replace HRES := Lib.hid (HRES.out.trans (if_neg (fun h => h2 h.2.2)))
        have h4 : (ck != 0) = true := bne_iff_ne.mpr h2
        go_wp2_with (first | (refine gate_ (.store 55 (.tmp 2) (.tmp 83)) rfl ?_; refine wpList_store_row rfl 55 (.tmp 2) (.tmp 83) rfl w.heap.size (rv zeroR none 0) rfl rfl 55 _ HR.out (by kernel_rfl) rfl (rv_one _ _ _) ?_; simp only [Act.put, List.setIfInBounds_toArray, List.set_cons_zero, List.set_cons_succ]))
        refine bodyPost_ret (results_row_tmp rfl _ _ w.heap.size 55 (rv zeroR none 0) (0, 0) _ rfl (setRow_heap _ _ _ _ _ _ HR.out) Try.underlying55 rfl (by kernel_rfl)) rfl ?_
        rw [HRES.out]
        exact ⟨none, 0, rfl, Kd.R_nil _ _ _ _ _, below_setRow' (HBv.out.trans (HB.out.mono HBv.out.size)) (Nat.le_refl _) _⟩
      subst h2
      replace HRES := Lib.hid (HRES.out.trans (if_pos (by simp [hib])))
      go_wp2_with (first | (refine gate_ (.load 55 (.tmp 8)) rfl ?_; refine wpList_load_row rfl 55 (.tmp 8) rfl gx rfl _ (rv (⟨(q : Int), (d : Int), 0, 0, 0, [], ⟨#[]⟩, 0, 0, 0, ⟨#[]⟩, B kt, 0, 0⟩ : RecP) none 0) (0, 0) _ HX.out Try.underlying55 rfl (by kernel_rfl) ?_; simp only [Act.put, List.setIfInBounds_toArray, List.set_cons_zero, List.set_cons_succ]) | (refine gate_ (.store 55 (.tmp 2) (.tmp 84)) rfl ?_; refine wpList_store_row rfl 55 (.tmp 2) (.tmp 84) rfl w.heap.size (rv (⟨(q : Int), (d : Int), 0, 0, 0, [], ⟨#[]⟩, 0, 0, 0, ⟨#[]⟩, B kt, 0, 0⟩ : RecP) none 0) rfl rfl 55 _ HR.out (by kernel_rfl) rfl (rv_one _ _ _) ?_; simp only [Act.put, List.setIfInBounds_toArray, List.set_cons_zero, List.set_cons_succ]))
      refine bodyPost_ret (results_row_tmp rfl _ _ w.heap.size 55 (rv (⟨(q : Int), (d : Int), 0, 0, 0, [], ⟨#[]⟩, 0, 0, 0, ⟨#[]⟩, B kt, 0, 0⟩ : RecP) none 0) (0, 0) _ rfl (setRow_heap _ _ _ _ _ _ HR.out) Try.underlying55 rfl (by kernel_rfl)) rfl ?_
      rw [HRES.out]
      exact ⟨none, 0, rfl, Kd.R_nil _ _ _ _ _, below_setRow' (HBv.out.trans (HB.out.mono HBv.out.size)) (Nat.le_refl _) _⟩
  by_cases hdd : ¬ d = 0 ∧ ¬ d = 2 ∧ ¬ d = 3
  case pos =>
    have hK : recK q d s2 = ((⟨(q : Int), (d : Int), 0, 0, 0, [], ⟨#[]⟩, 0, 0, 0, ⟨#[]⟩, ⟨#[]⟩, 0, 0⟩ : RecP), s2) := by unfold recK; rw [if_neg hd1, if_neg hdd.1, if_neg hdd.2.1, if_neg hdd.2.2]
    rw [hK] at HRES
    simp only at HRES
    clear hK
    have HL9 : Hid ((⟨(q : Int), (d : Int), 0, 0, 0, [], ⟨#[]⟩, 0, 0, 0, ⟨#[]⟩, ⟨#[]⟩, 0, 0⟩ : RecP).locs.length ≤ 1000) := Lib.hid (by exact Nat.zero_le _)
    have f1 : ((d : Int) == 1) = false := beq_eq_false_iff_ne.mpr (by omega)
    have f0 : ((d : Int) == 0) = false := beq_eq_false_iff_ne.mpr (by omega)
    have f2 : ((d : Int) == 2) = false := beq_eq_false_iff_ne.mpr (by omega)
    have f3 : ((d : Int) == 3) = false := beq_eq_false_iff_ne.mpr (by omega)
    clear hdd hd1 hs2
    cases hib : isb with
    | false =>
      replace HRES := Lib.hid (HRES.out.trans (if_neg (fun h => by rw [hib] at h; cases h.1)))
      go_wp2_with (first | (refine gate_ (.store 55 (.tmp 8) (.tmp 29)) rfl ?_; refine wpList_store_row rfl 55 (.tmp 8) (.tmp 29) rfl w4.heap.size #[.int .i64 (q : Int), .int .i64 (d : Int), .int .i64 0, .int .i64 0, .int .i64 0, .slice none 0 0, .string ⟨#[]⟩, .int .i64 0, .int .i64 0, .int .i64 0, .string ⟨#[]⟩, .string ⟨#[]⟩, .int .i64 0, .int .i64 0] rfl rfl 55 _ (Blk.new _ _ _) (by kernel_rfl) rfl (by simp [Value.oneCell']) ?_; simp only [Act.put, List.setIfInBounds_toArray, List.set_cons_zero, List.set_cons_succ]; have hp := put_new w4 #[.int .i64 0, .int .i64 0, .int .i64 0, .int .i64 0, .int .i64 0, .slice none 0 0, .string ⟨#[]⟩, .int .i64 0, .int .i64 0, .int .i64 0, .string ⟨#[]⟩, .string ⟨#[]⟩, .int .i64 0, .int .i64 0] #[.int .i64 (q : Int), .int .i64 (d : Int), .int .i64 0, .int .i64 0, .int .i64 0, .slice none 0 0, .string ⟨#[]⟩, .int .i64 0, .int .i64 0, .int .i64 0, .string ⟨#[]⟩, .string ⟨#[]⟩, .int .i64 0, .int .i64 0] 55; have HB2 := Aside0.mk (HB.out.trans (hp.2.mono HB.out.size)); have HI2 := Aside0.mk (HI.out.below hp.2); generalize (w4.alloc (.cells #[.int .i64 0, .int .i64 0, .int .i64 0, .int .i64 0, .int .i64 0, .slice none 0 0, .string ⟨#[]⟩, .int .i64 0, .int .i64 0, .int .i64 0, .string ⟨#[]⟩, .string ⟨#[]⟩, .int .i64 0, .int .i64 0] 55)).setRow w4.heap.size #[.int .i64 (q : Int), .int .i64 (d : Int), .int .i64 0, .int .i64 0, .int .i64 0, .slice none 0 0, .string ⟨#[]⟩, .int .i64 0, .int .i64 0, .int .i64 0, .string ⟨#[]⟩, .string ⟨#[]⟩, .int .i64 0, .int .i64 0] = wr at hp HB2 HI2 ⊢; clear HB HI; have HB := HB2; have HI := HI2; clear HB2 HI2; have HH := Aside0.mk hp.1; clear hp; generalize w4.heap.size = gx at HH hgx ⊢; have c1 := HH.out.cell (i := 1) (v := .int .i64 (d : Int)) rfl; replace HR := Aside0.mk (HR.out.keep HB.out)) | (refine gate_ (.store 55 (.tmp 2) (.tmp 83)) rfl ?_; refine wpList_store_row rfl 55 (.tmp 2) (.tmp 83) rfl w.heap.size (rv zeroR none 0) rfl rfl 55 _ HR.out (by kernel_rfl) rfl (rv_one _ _ _) ?_; simp only [Act.put, List.setIfInBounds_toArray, List.set_cons_zero, List.set_cons_succ]))
      refine bodyPost_ret (results_row_tmp rfl _ _ w.heap.size 55 (rv zeroR none 0) (0, 0) _ rfl (setRow_heap _ _ _ _ _ _ HR.out) Try.underlying55 rfl (by kernel_rfl)) rfl ?_
      rw [HRES.out]
      exact ⟨none, 0, rfl, Kd.R_nil _ _ _ _ _, below_setRow' (HBv.out.trans (HB.out.mono HBv.out.size)) (Nat.le_refl _) _⟩
    | true =>
      go_wp2_with (first | (refine gate_ (.store 55 (.tmp 8) (.tmp 29)) rfl ?_; refine wpList_store_row rfl 55 (.tmp 8) (.tmp 29) rfl w4.heap.size #[.int .i64 (q : Int), .int .i64 (d : Int), .int .i64 0, .int .i64 0, .int .i64 0, .slice none 0 0, .string ⟨#[]⟩, .int .i64 0, .int .i64 0, .int .i64 0, .string ⟨#[]⟩, .string ⟨#[]⟩, .int .i64 0, .int .i64 0] rfl rfl 55 _ (Blk.new _ _ _) (by kernel_rfl) rfl (by simp [Value.oneCell']) ?_; simp only [Act.put, List.setIfInBounds_toArray, List.set_cons_zero, List.set_cons_succ]; have hp := put_new w4 #[.int .i64 0, .int .i64 0, .int .i64 0, .int .i64 0, .int .i64 0, .slice none 0 0, .string ⟨#[]⟩, .int .i64 0, .int .i64 0, .int .i64 0, .string ⟨#[]⟩, .string ⟨#[]⟩, .int .i64 0, .int .i64 0] #[.int .i64 (q : Int), .int .i64 (d : Int), .int .i64 0, .int .i64 0, .int .i64 0, .slice none 0 0, .string ⟨#[]⟩, .int .i64 0, .int .i64 0, .int .i64 0, .string ⟨#[]⟩, .string ⟨#[]⟩, .int .i64 0, .int .i64 0] 55; have HB2 := Aside0.mk (HB.out.trans (hp.2.mono HB.out.size)); have HI2 := Aside0.mk (HI.out.below hp.2); generalize (w4.alloc (.cells #[.int .i64 0, .int .i64 0, .int .i64 0, .int .i64 0, .int .i64 0, .slice none 0 0, .string ⟨#[]⟩, .int .i64 0, .int .i64 0, .int .i64 0, .string ⟨#[]⟩, .string ⟨#[]⟩, .int .i64 0, .int .i64 0] 55)).setRow w4.heap.size #[.int .i64 (q : Int), .int .i64 (d : Int), .int .i64 0, .int .i64 0, .int .i64 0, .slice none 0 0, .string ⟨#[]⟩, .int .i64 0, .int .i64 0, .int .i64 0, .string ⟨#[]⟩, .string ⟨#[]⟩, .int .i64 0, .int .i64 0] = wr at hp HB2 HI2 ⊢; clear HB HI; have HB := HB2; have HI := HI2; clear HB2 HI2; have HH := Aside0.mk hp.1; clear hp; generalize w4.heap.size = gx at HH hgx ⊢; have c1 := HH.out.cell (i := 1) (v := .int .i64 (d : Int)) rfl))
      obtain ⟨r2, HE⟩ : ∃ r2, pack_Reader_End.f (B s2.1) s2.2 = some (endE s2, r2, endE s2) := by rcases rend_f s2 with h | h <;> exact ⟨_, h⟩
      refine Calls.mono (pack_Reader_End.calls g _ _ _ _ _ v _ HI.out HB.out HE) ?_
      clear HE
      rintro e w4 ⟨rfl, hI4, hB4, hK4⟩
      replace HB := Aside0.mk hB4
      have HX : Aside0 (Blk w4 gx (rv (⟨(q : Int), (d : Int), 0, 0, 0, [], ⟨#[]⟩, 0, 0, 0, ⟨#[]⟩, ⟨#[]⟩, 0, 0⟩ : RecP) none 0) 55) := ⟨HH.out.but hK4 (by omega)⟩
      clear hI4 hB4 hK4 HI HH
      generalize endE s2 = en at HRES ⊢
      by_cases h1 : en = 0
      case neg =>
        replace HRES := Lib.hid (HRES.out.trans (if_neg (fun h => h1 h.2.1)))
        have h4 : (en != 0) = true := bne_iff_ne.mpr h1
        replace HR := Aside0.mk (HR.out.keep HB.out)
        go_wp2_with (first | (refine gate_ (.store 55 (.tmp 2) (.tmp 83)) rfl ?_; refine wpList_store_row rfl 55 (.tmp 2) (.tmp 83) rfl w.heap.size (rv zeroR none 0) rfl rfl 55 _ HR.out (by kernel_rfl) rfl (rv_one _ _ _) ?_; simp only [Act.put, List.setIfInBounds_toArray, List.set_cons_zero, List.set_cons_succ]))
        refine bodyPost_ret (results_row_tmp rfl _ _ w.heap.size 55 (rv zeroR none 0) (0, 0) _ rfl (setRow_heap _ _ _ _ _ _ HR.out) Try.underlying55 rfl (by kernel_rfl)) rfl ?_
        rw [HRES.out]
        exact ⟨none, 0, rfl, Kd.R_nil _ _ _ _ _, below_setRow' (HBv.out.trans (HB.out.mono HBv.out.size)) (Nat.le_refl _) _⟩
      subst h1
      go_wp2_with (first | (refine gate_ (.load 55 (.tmp 8)) rfl ?_; refine gate_guard (by rfl) ?_; refine wpList_load_row rfl 55 (.tmp 8) rfl gx rfl _ (rv (⟨(q : Int), (d : Int), 0, 0, 0, [], ⟨#[]⟩, 0, 0, 0, ⟨#[]⟩, ⟨#[]⟩, 0, 0⟩ : RecP) none 0) (0, 0) _ HX.out Try.underlying55 rfl (by kernel_rfl) ?_; simp only [Act.put, List.setIfInBounds_toArray, List.set_cons_zero, List.set_cons_succ]) | (refine gate_ (.load 55 (.tmp 8)) rfl ?_; refine wpList_load_row rfl 55 (.tmp 8) rfl gx rfl _ (rv (⟨(q : Int), (d : Int), 0, 0, 0, [], ⟨#[]⟩, 0, 0, 0, ⟨#[]⟩, ⟨#[]⟩, 0, 0⟩ : RecP) none 0) (0, 0) _ HX.out Try.underlying55 rfl (by kernel_rfl) ?_; simp only [Act.put, List.setIfInBounds_toArray, List.set_cons_zero, List.set_cons_succ]))
      refine (rchk_calls (⟨(q : Int), (d : Int), 0, 0, 0, [], ⟨#[]⟩, 0, 0, 0, ⟨#[]⟩, ⟨#[]⟩, 0, 0⟩ : RecP) none 0 w4 (Kd.C_nil _ _) HL9.out (Nat.zero_le _)).mono ?_
      rintro e w5 ⟨rfl, b1⟩
      replace HX := Aside0.mk (HX.out.keep b1)
      replace HB := Aside0.mk (below2 HB.out HB.out.size b1)
      clear b1
      replace HR := Aside0.mk (HR.out.keep HB.out)
      obtain ⟨ck, hck⟩ : ∃ z, chkR (⟨(q : Int), (d : Int), 0, 0, 0, [], ⟨#[]⟩, 0, 0, 0, ⟨#[]⟩, ⟨#[]⟩, 0, 0⟩ : RecP) = z := ⟨_, rfl⟩
      rw [hck] at HRES ⊢
      clear hck
      by_cases h2 : ck = 0
      case neg =>
        replace HRES := Lib.hid (HRES.out.trans (if_neg (fun h => h2 h.2.2)))
        have h4 : (ck != 0) = true := bne_iff_ne.mpr h2
        go_wp2_with (first | (refine gate_ (.store 55 (.tmp 2) (.tmp 83)) rfl ?_; refine wpList_store_row rfl 55 (.tmp 2) (.tmp 83) rfl w.heap.size (rv zeroR none 0) rfl rfl 55 _ HR.out (by kernel_rfl) rfl (rv_one _ _ _) ?_; simp only [Act.put, List.setIfInBounds_toArray, List.set_cons_zero, List.set_cons_succ]))
        refine bodyPost_ret (results_row_tmp rfl _ _ w.heap.size 55 (rv zeroR none 0) (0, 0) _ rfl (setRow_heap _ _ _ _ _ _ HR.out) Try.underlying55 rfl (by kernel_rfl)) rfl ?_
        rw [HRES.out]
        exact ⟨none, 0, rfl, Kd.R_nil _ _ _ _ _, below_setRow' (HBv.out.trans (HB.out.mono HBv.out.size)) (Nat.le_refl _) _⟩
      subst h2
      replace HRES := Lib.hid (HRES.out.trans (if_pos (by simp [hib])))
      go_wp2_with (first | (refine gate_ (.load 55 (.tmp 8)) rfl ?_; refine wpList_load_row rfl 55 (.tmp 8) rfl gx rfl _ (rv (⟨(q : Int), (d : Int), 0, 0, 0, [], ⟨#[]⟩, 0, 0, 0, ⟨#[]⟩, ⟨#[]⟩, 0, 0⟩ : RecP) none 0) (0, 0) _ HX.out Try.underlying55 rfl (by kernel_rfl) ?_; simp only [Act.put, List.setIfInBounds_toArray, List.set_cons_zero, List.set_cons_succ]) | (refine gate_ (.store 55 (.tmp 2) (.tmp 84)) rfl ?_; refine wpList_store_row rfl 55 (.tmp 2) (.tmp 84) rfl w.heap.size (rv (⟨(q : Int), (d : Int), 0, 0, 0, [], ⟨#[]⟩, 0, 0, 0, ⟨#[]⟩, ⟨#[]⟩, 0, 0⟩ : RecP) none 0) rfl rfl 55 _ HR.out (by kernel_rfl) rfl (rv_one _ _ _) ?_; simp only [Act.put, List.setIfInBounds_toArray, List.set_cons_zero, List.set_cons_succ]))
      refine bodyPost_ret (results_row_tmp rfl _ _ w.heap.size 55 (rv (⟨(q : Int), (d : Int), 0, 0, 0, [], ⟨#[]⟩, 0, 0, 0, ⟨#[]⟩, ⟨#[]⟩, 0, 0⟩ : RecP) none 0) (0, 0) _ rfl (setRow_heap _ _ _ _ _ _ HR.out) Try.underlying55 rfl (by kernel_rfl)) rfl ?_
      rw [HRES.out]
      exact ⟨none, 0, rfl, Kd.R_nil _ _ _ _ _, below_setRow' (HBv.out.trans (HB.out.mono HBv.out.size)) (Nat.le_refl _) _⟩
  obtain ⟨⟨⟨vi, vg, vn, vl⟩, s3⟩, ev⟩ : ∃ p, volS s2 = p := ⟨_, rfl⟩
  have h9 := vol_nine ev
  have hs3 := vol_st1 hs2 ev
  have HEV := Lib.hid ev
  by_cases hd2 : d = 2
  case pos =>
    have hK : recK q d s2 = ((⟨(q : Int), (d : Int), vi, vg, vn, vl, ⟨#[]⟩, 0, 0, 0, ⟨#[]⟩, ⟨#[]⟩, 0, 0⟩ : RecP), s3) := by unfold recK; rw [if_neg hd1, if_neg (by omega), if_pos hd2]; simp only [ev]
    rw [hK] at HRES
    simp only at HRES
    clear hK
    have HL9 : Hid ((⟨(q : Int), (d : Int), vi, vg, vn, vl, ⟨#[]⟩, 0, 0, 0, ⟨#[]⟩, ⟨#[]⟩, 0, 0⟩ : RecP).locs.length ≤ 1000) := Lib.hid (by show vl.length ≤ 1000; rw [h9]; decide)
    have f1 : ((d : Int) == 1) = false := beq_eq_false_iff_ne.mpr (by omega)
    have f0 : ((d : Int) == 0) = false := beq_eq_false_iff_ne.mpr (by omega)
    have f2 : ((d : Int) == 2) = true := beq_iff_eq.mpr (by omega)
    have f3 : ((d : Int) == 3) = false := beq_eq_false_iff_ne.mpr (by omega)
    clear ev h9 hs3 hd1 hd2 hdd
    go_wp2_with (first | (refine gate_ (.store 55 (.tmp 8) (.tmp 29)) rfl ?_; refine wpList_store_row rfl 55 (.tmp 8) (.tmp 29) rfl w4.heap.size #[.int .i64 (q : Int), .int .i64 (d : Int), .int .i64 0, .int .i64 0, .int .i64 0, .slice none 0 0, .string ⟨#[]⟩, .int .i64 0, .int .i64 0, .int .i64 0, .string ⟨#[]⟩, .string ⟨#[]⟩, .int .i64 0, .int .i64 0] rfl rfl 55 _ (Blk.new _ _ _) (by kernel_rfl) rfl (by simp [Value.oneCell']) ?_; simp only [Act.put, List.setIfInBounds_toArray, List.set_cons_zero, List.set_cons_succ]; have hp := put_new w4 #[.int .i64 0, .int .i64 0, .int .i64 0, .int .i64 0, .int .i64 0, .slice none 0 0, .string ⟨#[]⟩, .int .i64 0, .int .i64 0, .int .i64 0, .string ⟨#[]⟩, .string ⟨#[]⟩, .int .i64 0, .int .i64 0] #[.int .i64 (q : Int), .int .i64 (d : Int), .int .i64 0, .int .i64 0, .int .i64 0, .slice none 0 0, .string ⟨#[]⟩, .int .i64 0, .int .i64 0, .int .i64 0, .string ⟨#[]⟩, .string ⟨#[]⟩, .int .i64 0, .int .i64 0] 55; have HB2 := Aside0.mk (HB.out.trans (hp.2.mono HB.out.size)); have HI2 := Aside0.mk (HI.out.below hp.2); generalize (w4.alloc (.cells #[.int .i64 0, .int .i64 0, .int .i64 0, .int .i64 0, .int .i64 0, .slice none 0 0, .string ⟨#[]⟩, .int .i64 0, .int .i64 0, .int .i64 0, .string ⟨#[]⟩, .string ⟨#[]⟩, .int .i64 0, .int .i64 0] 55)).setRow w4.heap.size #[.int .i64 (q : Int), .int .i64 (d : Int), .int .i64 0, .int .i64 0, .int .i64 0, .slice none 0 0, .string ⟨#[]⟩, .int .i64 0, .int .i64 0, .int .i64 0, .string ⟨#[]⟩, .string ⟨#[]⟩, .int .i64 0, .int .i64 0] = wr at hp HB2 HI2 ⊢; clear HB HI; have HB := HB2; have HI := HI2; clear HB2 HI2; have HH := Aside0.mk hp.1; clear hp; generalize w4.heap.size = gx at HH hgx ⊢; have c1 := HH.out.cell (i := 1) (v := .int .i64 (d : Int)) rfl))
    have hgz : gx < wr.heap.size := HH.out.lt
    refine Calls.mono (vol_calls_st g s2 v _ hs2 HI.out HB.out HEV.out) ?_
    rintro e w4 ⟨A, c, rfl, hO, hI4, hB4, hK4⟩
    have HO := Aside0.mk hO
    clear hO HEV
    generalize wr.heap.size = bz at HO hgz
    replace HI := Aside0.mk hI4
    replace HB := Aside0.mk hB4
    replace HH := Aside0.mk (HH.out.but hK4 (by omega))
    clear hI4 hB4 hK4
    cases hib : isb with
    | false =>
      replace HRES := Lib.hid (HRES.out.trans (if_neg (fun h => by rw [hib] at h; cases h.1)))
      go_wp2_with (first | (refine gate_ (.store 29 (.tmp 59) (.tmp 58)) rfl ?_; refine wpList_store_mid rfl 29 (.tmp 59) (.tmp 58) rfl gx 2 #[.int .i64 vi, .int .i64 vg, .int .i64 vn, .slice A vl.length c] rfl rfl (HH.out.there 2 4 (show 6 ≤ 14 by decide)) (by kernel_rfl) (by simp [Value.oneCell']) ?_; simp only [Act.put, List.setIfInBounds_toArray, List.set_cons_zero, List.set_cons_succ]; have HH2 : Aside0 (Blk (w4.setCells gx 2 (Array.toList #[.int .i64 vi, .int .i64 vg, .int .i64 vn, .slice A vl.length c])) gx #[.int .i64 (q : Int), .int .i64 (d : Int), .int .i64 vi, .int .i64 vg, .int .i64 vn, .slice A vl.length c, .string ⟨#[]⟩, .int .i64 0, .int .i64 0, .int .i64 0, .string ⟨#[]⟩, .string ⟨#[]⟩, .int .i64 0, .int .i64 0] 55) := ⟨HH.out.setCells _ 2⟩; have HI2 : Aside0 (IsS127 v (w4.setCells gx 2 (Array.toList #[.int .i64 vi, .int .i64 vg, .int .i64 vn, .slice A vl.length c])) g (B s3.1) s3.2) := ⟨⟨Blk.setCells_other (by omega) _ 2 HI.out.1, HI.out.2⟩⟩; have HB2 : Aside0 (Below v.heap.size v (w4.setCells gx 2 (Array.toList #[.int .i64 vi, .int .i64 vg, .int .i64 vn, .slice A vl.length c]))) := ⟨below_setCells (by omega) _ 2 HB.out⟩; have HO2 : Aside0 (Kd.R k83 83 (w4.setCells gx 2 (Array.toList #[.int .i64 vi, .int .i64 vg, .int .i64 vn, .slice A vl.length c])) bz (fun k => bz ≤ k) (.slice A vl.length c) vl) := ⟨Kd.R_step HO.out (fun k hk _ => setCells_heap gx k (by omega) _ _ _)⟩; generalize w4.setCells gx 2 (Array.toList #[.int .i64 vi, .int .i64 vg, .int .i64 vn, .slice A vl.length c]) = wr at HH2 HI2 HB2 HO2 ⊢; clear HH HI HB HO; have HH := HH2; have HI := HI2; have HB := HB2; have HO := HO2; clear HH2 HI2 HB2 HO2; replace HR := Aside0.mk (HR.out.keep HB.out)) | (refine gate_ (.store 55 (.tmp 2) (.tmp 83)) rfl ?_; refine wpList_store_row rfl 55 (.tmp 2) (.tmp 83) rfl w.heap.size (rv zeroR none 0) rfl rfl 55 _ HR.out (by kernel_rfl) rfl (rv_one _ _ _) ?_; simp only [Act.put, List.setIfInBounds_toArray, List.set_cons_zero, List.set_cons_succ]))
      refine bodyPost_ret (results_row_tmp rfl _ _ w.heap.size 55 (rv zeroR none 0) (0, 0) _ rfl (setRow_heap _ _ _ _ _ _ HR.out) Try.underlying55 rfl (by kernel_rfl)) rfl ?_
      rw [HRES.out]
      exact ⟨none, 0, rfl, Kd.R_nil _ _ _ _ _, below_setRow' (HBv.out.trans (HB.out.mono HBv.out.size)) (Nat.le_refl _) _⟩
    | true =>
      go_wp2_with (first | (refine gate_ (.store 29 (.tmp 59) (.tmp 58)) rfl ?_; refine wpList_store_mid rfl 29 (.tmp 59) (.tmp 58) rfl gx 2 #[.int .i64 vi, .int .i64 vg, .int .i64 vn, .slice A vl.length c] rfl rfl (HH.out.there 2 4 (show 6 ≤ 14 by decide)) (by kernel_rfl) (by simp [Value.oneCell']) ?_; simp only [Act.put, List.setIfInBounds_toArray, List.set_cons_zero, List.set_cons_succ]; have HH2 : Aside0 (Blk (w4.setCells gx 2 (Array.toList #[.int .i64 vi, .int .i64 vg, .int .i64 vn, .slice A vl.length c])) gx #[.int .i64 (q : Int), .int .i64 (d : Int), .int .i64 vi, .int .i64 vg, .int .i64 vn, .slice A vl.length c, .string ⟨#[]⟩, .int .i64 0, .int .i64 0, .int .i64 0, .string ⟨#[]⟩, .string ⟨#[]⟩, .int .i64 0, .int .i64 0] 55) := ⟨HH.out.setCells _ 2⟩; have HI2 : Aside0 (IsS127 v (w4.setCells gx 2 (Array.toList #[.int .i64 vi, .int .i64 vg, .int .i64 vn, .slice A vl.length c])) g (B s3.1) s3.2) := ⟨⟨Blk.setCells_other (by omega) _ 2 HI.out.1, HI.out.2⟩⟩; have HB2 : Aside0 (Below v.heap.size v (w4.setCells gx 2 (Array.toList #[.int .i64 vi, .int .i64 vg, .int .i64 vn, .slice A vl.length c]))) := ⟨below_setCells (by omega) _ 2 HB.out⟩; have HO2 : Aside0 (Kd.R k83 83 (w4.setCells gx 2 (Array.toList #[.int .i64 vi, .int .i64 vg, .int .i64 vn, .slice A vl.length c])) bz (fun k => bz ≤ k) (.slice A vl.length c) vl) := ⟨Kd.R_step HO.out (fun k hk _ => setCells_heap gx k (by omega) _ _ _)⟩; generalize w4.setCells gx 2 (Array.toList #[.int .i64 vi, .int .i64 vg, .int .i64 vn, .slice A vl.length c]) = wr at HH2 HI2 HB2 HO2 ⊢; clear HH HI HB HO; have HH := HH2; have HI := HI2; have HB := HB2; have HO := HO2; clear HH2 HI2 HB2 HO2))
      obtain ⟨r2, HE⟩ : ∃ r2, pack_Reader_End.f (B s3.1) s3.2 = some (endE s3, r2, endE s3) := by rcases rend_f s3 with h | h <;> exact ⟨_, h⟩
      refine Calls.mono (pack_Reader_End.calls g _ _ _ _ _ v _ HI.out HB.out HE) ?_
      clear HE
      rintro e w4 ⟨rfl, hI4, hB4, hK4⟩
      replace HB := Aside0.mk hB4
      have HX : Aside0 (Blk w4 gx (rv (⟨(q : Int), (d : Int), vi, vg, vn, vl, ⟨#[]⟩, 0, 0, 0, ⟨#[]⟩, ⟨#[]⟩, 0, 0⟩ : RecP) A c) 55) := ⟨HH.out.but hK4 (by omega)⟩
      replace HO := Aside0.mk (Kd.R_keep HO.out hK4 (fun k hk => by omega))
      clear hI4 hB4 hK4 HI HH
      generalize endE s3 = en at HRES ⊢
      by_cases h1 : en = 0
      case neg =>
        replace HRES := Lib.hid (HRES.out.trans (if_neg (fun h => h1 h.2.1)))
        have h4 : (en != 0) = true := bne_iff_ne.mpr h1
        replace HR := Aside0.mk (HR.out.keep HB.out)
        go_wp2_with (first | (refine gate_ (.store 55 (.tmp 2) (.tmp 83)) rfl ?_; refine wpList_store_row rfl 55 (.tmp 2) (.tmp 83) rfl w.heap.size (rv zeroR none 0) rfl rfl 55 _ HR.out (by kernel_rfl) rfl (rv_one _ _ _) ?_; simp only [Act.put, List.setIfInBounds_toArray, List.set_cons_zero, List.set_cons_succ]))
        refine bodyPost_ret (results_row_tmp rfl _ _ w.heap.size 55 (rv zeroR none 0) (0, 0) _ rfl (setRow_heap _ _ _ _ _ _ HR.out) Try.underlying55 rfl (by kernel_rfl)) rfl ?_
        rw [HRES.out]
        exact ⟨none, 0, rfl, Kd.R_nil _ _ _ _ _, below_setRow' (HBv.out.trans (HB.out.mono HBv.out.size)) (Nat.le_refl _) _⟩
      subst h1
      go_wp2_with (first | (refine gate_ (.load 55 (.tmp 8)) rfl ?_; refine gate_guard (by rfl) ?_; refine wpList_load_row rfl 55 (.tmp 8) rfl gx rfl _ (rv (⟨(q : Int), (d : Int), vi, vg, vn, vl, ⟨#[]⟩, 0, 0, 0, ⟨#[]⟩, ⟨#[]⟩, 0, 0⟩ : RecP) A c) (0, 0) _ HX.out Try.underlying55 rfl (by kernel_rfl) ?_; simp only [Act.put, List.setIfInBounds_toArray, List.set_cons_zero, List.set_cons_succ]) | (refine gate_ (.load 55 (.tmp 8)) rfl ?_; refine wpList_load_row rfl 55 (.tmp 8) rfl gx rfl _ (rv (⟨(q : Int), (d : Int), vi, vg, vn, vl, ⟨#[]⟩, 0, 0, 0, ⟨#[]⟩, ⟨#[]⟩, 0, 0⟩ : RecP) A c) (0, 0) _ HX.out Try.underlying55 rfl (by kernel_rfl) ?_; simp only [Act.put, List.setIfInBounds_toArray, List.set_cons_zero, List.set_cons_succ]))
      refine (rchk_calls (⟨(q : Int), (d : Int), vi, vg, vn, vl, ⟨#[]⟩, 0, 0, 0, ⟨#[]⟩, ⟨#[]⟩, 0, 0⟩ : RecP) A c w4 (Kd.R_reads' HO.out).2.2 HL9.out (Kd.R_reads' HO.out).2.1).mono ?_
      rintro e w5 ⟨rfl, b1⟩
      replace HX := Aside0.mk (HX.out.keep b1)
      replace HB := Aside0.mk (below2 HB.out HB.out.size b1)
      replace HO := Aside0.mk (Kd.R_below HO.out b1)
      clear b1
      replace HR := Aside0.mk (HR.out.keep HB.out)
      obtain ⟨ck, hck⟩ : ∃ z, chkR (⟨(q : Int), (d : Int), vi, vg, vn, vl, ⟨#[]⟩, 0, 0, 0, ⟨#[]⟩, ⟨#[]⟩, 0, 0⟩ : RecP) = z := ⟨_, rfl⟩
      rw [hck] at HRES ⊢
      clear hck
      by_cases h2 : ck = 0
      case neg =>
        replace HRES := Lib.hid (HRES.out.trans (if_neg (fun h => h2 h.2.2)))
        have h4 : (ck != 0) = true := bne_iff_ne.mpr h2
        go_wp2_with (first | (refine gate_ (.store 55 (.tmp 2) (.tmp 83)) rfl ?_; refine wpList_store_row rfl 55 (.tmp 2) (.tmp 83) rfl w.heap.size (rv zeroR none 0) rfl rfl 55 _ HR.out (by kernel_rfl) rfl (rv_one _ _ _) ?_; simp only [Act.put, List.setIfInBounds_toArray, List.set_cons_zero, List.set_cons_succ]))
        refine bodyPost_ret (results_row_tmp rfl _ _ w.heap.size 55 (rv zeroR none 0) (0, 0) _ rfl (setRow_heap _ _ _ _ _ _ HR.out) Try.underlying55 rfl (by kernel_rfl)) rfl ?_
        rw [HRES.out]
        exact ⟨none, 0, rfl, Kd.R_nil _ _ _ _ _, below_setRow' (HBv.out.trans (HB.out.mono HBv.out.size)) (Nat.le_refl _) _⟩
      subst h2
      replace HRES := Lib.hid (HRES.out.trans (if_pos (by simp [hib])))
      go_wp2_with (first | (refine gate_ (.load 55 (.tmp 8)) rfl ?_; refine wpList_load_row rfl 55 (.tmp 8) rfl gx rfl _ (rv (⟨(q : Int), (d : Int), vi, vg, vn, vl, ⟨#[]⟩, 0, 0, 0, ⟨#[]⟩, ⟨#[]⟩, 0, 0⟩ : RecP) A c) (0, 0) _ HX.out Try.underlying55 rfl (by kernel_rfl) ?_; simp only [Act.put, List.setIfInBounds_toArray, List.set_cons_zero, List.set_cons_succ]) | (refine gate_ (.store 55 (.tmp 2) (.tmp 84)) rfl ?_; refine wpList_store_row rfl 55 (.tmp 2) (.tmp 84) rfl w.heap.size (rv (⟨(q : Int), (d : Int), vi, vg, vn, vl, ⟨#[]⟩, 0, 0, 0, ⟨#[]⟩, ⟨#[]⟩, 0, 0⟩ : RecP) A c) rfl rfl 55 _ HR.out (by kernel_rfl) rfl (rv_one _ _ _) ?_; simp only [Act.put, List.setIfInBounds_toArray, List.set_cons_zero, List.set_cons_succ]))
      refine bodyPost_ret (results_row_tmp rfl _ _ w.heap.size 55 (rv (⟨(q : Int), (d : Int), vi, vg, vn, vl, ⟨#[]⟩, 0, 0, 0, ⟨#[]⟩, ⟨#[]⟩, 0, 0⟩ : RecP) A c) (0, 0) _ rfl (setRow_heap _ _ _ _ _ _ HR.out) Try.underlying55 rfl (by kernel_rfl)) rfl ?_
      rw [HRES.out]
      have hO : Kd.R k83 83 (w5.setRow w.heap.size (rv (⟨(q : Int), (d : Int), vi, vg, vn, vl, ⟨#[]⟩, 0, 0, 0, ⟨#[]⟩, ⟨#[]⟩, 0, 0⟩ : RecP) A c)) bz (fun k => bz ≤ k) (.slice A vl.length c) vl := Kd.R_step HO.out (fun k hk _ => setRow_other w5 w.heap.size k _ (by omega))
      exact ⟨A, c, rfl, Kd.R_mono (Kd.R_lower hO (by omega)) (fun k hk => by omega), below_setRow' (HBv.out.trans (HB.out.mono HBv.out.size)) (Nat.le_refl _) _⟩
  by_cases hd3 : d = 3
  case pos =>
    obtain ⟨⟨fr, s4⟩, e3⟩ : ∃ p, nx s3 = p := ⟨_, rfl⟩
    obtain ⟨⟨tl, s5⟩, e4⟩ : ∃ p, nx s4 = p := ⟨_, rfl⟩
    have hs4 := nx_st1 hs3 e3
    have HN3 := Lib.hid (num_st s3 hs3 e3)
    have HN4 := Lib.hid (num_st s4 hs4 e4)
    have hK : recK q d s2 = ((⟨(q : Int), (d : Int), vi, vg, vn, vl, ⟨#[]⟩, 0, 0, 0, ⟨#[]⟩, ⟨#[]⟩, (fr : Int), (tl : Int)⟩ : RecP), s5) := by unfold recK; rw [if_neg hd1, if_neg (by omega), if_neg (by omega), if_pos hd3]; simp only [ev, e3, e4]
    rw [hK] at HRES
    simp only at HRES
    clear hK
    have HL9 : Hid ((⟨(q : Int), (d : Int), vi, vg, vn, vl, ⟨#[]⟩, 0, 0, 0, ⟨#[]⟩, ⟨#[]⟩, (fr : Int), (tl : Int)⟩ : RecP).locs.length ≤ 1000) := Lib.hid (by show vl.length ≤ 1000; rw [h9]; decide)
    have f1 : ((d : Int) == 1) = false := beq_eq_false_iff_ne.mpr (by omega)
    have f0 : ((d : Int) == 0) = false := beq_eq_false_iff_ne.mpr (by omega)
    have f2 : ((d : Int) == 2) = false := beq_eq_false_iff_ne.mpr (by omega)
    have f3 : ((d : Int) == 3) = true := beq_iff_eq.mpr (by omega)
    clear ev e3 e4 h9 hs3 hs4 hd1 hd2 hd3 hdd
    go_wp2_with (first | (refine gate_ (.store 55 (.tmp 8) (.tmp 29)) rfl ?_; refine wpList_store_row rfl 55 (.tmp 8) (.tmp 29) rfl w4.heap.size #[.int .i64 (q : Int), .int .i64 (d : Int), .int .i64 0, .int .i64 0, .int .i64 0, .slice none 0 0, .string ⟨#[]⟩, .int .i64 0, .int .i64 0, .int .i64 0, .string ⟨#[]⟩, .string ⟨#[]⟩, .int .i64 0, .int .i64 0] rfl rfl 55 _ (Blk.new _ _ _) (by kernel_rfl) rfl (by simp [Value.oneCell']) ?_; simp only [Act.put, List.setIfInBounds_toArray, List.set_cons_zero, List.set_cons_succ]; have hp := put_new w4 #[.int .i64 0, .int .i64 0, .int .i64 0, .int .i64 0, .int .i64 0, .slice none 0 0, .string ⟨#[]⟩, .int .i64 0, .int .i64 0, .int .i64 0, .string ⟨#[]⟩, .string ⟨#[]⟩, .int .i64 0, .int .i64 0] #[.int .i64 (q : Int), .int .i64 (d : Int), .int .i64 0, .int .i64 0, .int .i64 0, .slice none 0 0, .string ⟨#[]⟩, .int .i64 0, .int .i64 0, .int .i64 0, .string ⟨#[]⟩, .string ⟨#[]⟩, .int .i64 0, .int .i64 0] 55; have HB2 := Aside0.mk (HB.out.trans (hp.2.mono HB.out.size)); have HI2 := Aside0.mk (HI.out.below hp.2); generalize (w4.alloc (.cells #[.int .i64 0, .int .i64 0, .int .i64 0, .int .i64 0, .int .i64 0, .slice none 0 0, .string ⟨#[]⟩, .int .i64 0, .int .i64 0, .int .i64 0, .string ⟨#[]⟩, .string ⟨#[]⟩, .int .i64 0, .int .i64 0] 55)).setRow w4.heap.size #[.int .i64 (q : Int), .int .i64 (d : Int), .int .i64 0, .int .i64 0, .int .i64 0, .slice none 0 0, .string ⟨#[]⟩, .int .i64 0, .int .i64 0, .int .i64 0, .string ⟨#[]⟩, .string ⟨#[]⟩, .int .i64 0, .int .i64 0] = wr at hp HB2 HI2 ⊢; clear HB HI; have HB := HB2; have HI := HI2; clear HB2 HI2; have HH := Aside0.mk hp.1; clear hp; generalize w4.heap.size = gx at HH hgx ⊢; have c1 := HH.out.cell (i := 1) (v := .int .i64 (d : Int)) rfl))
    have hgz : gx < wr.heap.size := HH.out.lt
    refine Calls.mono (vol_calls_st g s2 v _ hs2 HI.out HB.out HEV.out) ?_
    rintro e w4 ⟨A, c, rfl, hO, hI4, hB4, hK4⟩
    have HO := Aside0.mk hO
    clear hO HEV
    generalize wr.heap.size = bz at HO hgz
    replace HI := Aside0.mk hI4
    replace HB := Aside0.mk hB4
    replace HH := Aside0.mk (HH.out.but hK4 (by omega))
    clear hI4 hB4 hK4
    go_wp2_with fail
    refine Calls.mono (pack_Reader_Number.calls 20 g _ _ _ _ _ v _ HI.out HB.out HN3.out) ?_
    rintro e w4 ⟨rfl, hI4, hB4, hK4⟩
    replace HI := Aside0.mk hI4
    replace HB := Aside0.mk hB4
    replace HH := Aside0.mk (HH.out.but hK4 (by omega))
    replace HO := Aside0.mk (Kd.R_keep HO.out hK4 (fun k hk => by omega))
    clear hI4 hB4 hK4
    clear HN3
    go_wp2_with fail
    refine Calls.mono (pack_Reader_Number.calls 20 g _ _ _ _ _ v _ HI.out HB.out HN4.out) ?_
    rintro e w4 ⟨rfl, hI4, hB4, hK4⟩
    replace HI := Aside0.mk hI4
    replace HB := Aside0.mk hB4
    replace HH := Aside0.mk (HH.out.but hK4 (by omega))
    replace HO := Aside0.mk (Kd.R_keep HO.out hK4 (fun k hk => by omega))
    clear hI4 hB4 hK4
    clear HN4
    cases hib : isb with
    | false =>
      replace HRES := Lib.hid (HRES.out.trans (if_neg (fun h => by rw [hib] at h; cases h.1)))
      go_wp2_with (first | (refine gate_ (.store 29 (.tmp 68) (.tmp 63)) rfl ?_; refine wpList_store_mid rfl 29 (.tmp 68) (.tmp 63) rfl gx 2 #[.int .i64 vi, .int .i64 vg, .int .i64 vn, .slice A vl.length c] rfl rfl (HH.out.there 2 4 (show 6 ≤ 14 by decide)) (by kernel_rfl) (by simp [Value.oneCell']) ?_; simp only [Act.put, List.setIfInBounds_toArray, List.set_cons_zero, List.set_cons_succ]; have HH2 : Aside0 (Blk (w4.setCells gx 2 (Array.toList #[.int .i64 vi, .int .i64 vg, .int .i64 vn, .slice A vl.length c])) gx #[.int .i64 (q : Int), .int .i64 (d : Int), .int .i64 vi, .int .i64 vg, .int .i64 vn, .slice A vl.length c, .string ⟨#[]⟩, .int .i64 0, .int .i64 0, .int .i64 0, .string ⟨#[]⟩, .string ⟨#[]⟩, .int .i64 0, .int .i64 0] 55) := ⟨HH.out.setCells _ 2⟩; have HI2 : Aside0 (IsS127 v (w4.setCells gx 2 (Array.toList #[.int .i64 vi, .int .i64 vg, .int .i64 vn, .slice A vl.length c])) g (B s5.1) s5.2) := ⟨⟨Blk.setCells_other (by omega) _ 2 HI.out.1, HI.out.2⟩⟩; have HB2 : Aside0 (Below v.heap.size v (w4.setCells gx 2 (Array.toList #[.int .i64 vi, .int .i64 vg, .int .i64 vn, .slice A vl.length c]))) := ⟨below_setCells (by omega) _ 2 HB.out⟩; have HO2 : Aside0 (Kd.R k83 83 (w4.setCells gx 2 (Array.toList #[.int .i64 vi, .int .i64 vg, .int .i64 vn, .slice A vl.length c])) bz (fun k => bz ≤ k) (.slice A vl.length c) vl) := ⟨Kd.R_step HO.out (fun k hk _ => setCells_heap gx k (by omega) _ _ _)⟩; generalize w4.setCells gx 2 (Array.toList #[.int .i64 vi, .int .i64 vg, .int .i64 vn, .slice A vl.length c]) = wr at HH2 HI2 HB2 HO2 ⊢; clear HH HI HB HO; have HH := HH2; have HI := HI2; have HB := HB2; have HO := HO2; clear HH2 HI2 HB2 HO2; have c12 := HH.out.cell (i := 12) (v := .int .i64 0) rfl; have u12 := HH.out.free 12; have c13 := HH.out.cell (i := 13) (v := .int .i64 0) rfl; have u13 := HH.out.free 13; have HB2 : Aside0 (Below v.heap.size v ((wr.setCell ⟨gx, 12, none⟩ (.int .i64 (fr : Int))).setCell ⟨gx, 13, none⟩ (.int .i64 (tl : Int)))) := ⟨(HB.out.setCell (p := ⟨gx, 12, none⟩) (by show v.heap.size ≤ gx; omega) _).setCell (p := ⟨gx, 13, none⟩) (by show v.heap.size ≤ gx; omega) _⟩; clear HB; have HB := HB2; clear HB2; replace HR := Aside0.mk (HR.out.keep HB.out)) | (refine gate_ (.store 55 (.tmp 2) (.tmp 83)) rfl ?_; refine wpList_store_row rfl 55 (.tmp 2) (.tmp 83) rfl w.heap.size (rv zeroR none 0) rfl rfl 55 _ HR.out (by kernel_rfl) rfl (rv_one _ _ _) ?_; simp only [Act.put, List.setIfInBounds_toArray, List.set_cons_zero, List.set_cons_succ]))
      refine bodyPost_ret (results_row_tmp rfl _ _ w.heap.size 55 (rv zeroR none 0) (0, 0) _ rfl (setRow_heap _ _ _ _ _ _ HR.out) Try.underlying55 rfl (by kernel_rfl)) rfl ?_
      rw [HRES.out]
      exact ⟨none, 0, rfl, Kd.R_nil _ _ _ _ _, below_setRow' (HBv.out.trans (HB.out.mono HBv.out.size)) (Nat.le_refl _) _⟩
    | true =>
      go_wp2_with (first | (refine gate_ (.store 29 (.tmp 68) (.tmp 63)) rfl ?_; refine wpList_store_mid rfl 29 (.tmp 68) (.tmp 63) rfl gx 2 #[.int .i64 vi, .int .i64 vg, .int .i64 vn, .slice A vl.length c] rfl rfl (HH.out.there 2 4 (show 6 ≤ 14 by decide)) (by kernel_rfl) (by simp [Value.oneCell']) ?_; simp only [Act.put, List.setIfInBounds_toArray, List.set_cons_zero, List.set_cons_succ]; have HH2 : Aside0 (Blk (w4.setCells gx 2 (Array.toList #[.int .i64 vi, .int .i64 vg, .int .i64 vn, .slice A vl.length c])) gx #[.int .i64 (q : Int), .int .i64 (d : Int), .int .i64 vi, .int .i64 vg, .int .i64 vn, .slice A vl.length c, .string ⟨#[]⟩, .int .i64 0, .int .i64 0, .int .i64 0, .string ⟨#[]⟩, .string ⟨#[]⟩, .int .i64 0, .int .i64 0] 55) := ⟨HH.out.setCells _ 2⟩; have HI2 : Aside0 (IsS127 v (w4.setCells gx 2 (Array.toList #[.int .i64 vi, .int .i64 vg, .int .i64 vn, .slice A vl.length c])) g (B s5.1) s5.2) := ⟨⟨Blk.setCells_other (by omega) _ 2 HI.out.1, HI.out.2⟩⟩; have HB2 : Aside0 (Below v.heap.size v (w4.setCells gx 2 (Array.toList #[.int .i64 vi, .int .i64 vg, .int .i64 vn, .slice A vl.length c]))) := ⟨below_setCells (by omega) _ 2 HB.out⟩; have HO2 : Aside0 (Kd.R k83 83 (w4.setCells gx 2 (Array.toList #[.int .i64 vi, .int .i64 vg, .int .i64 vn, .slice A vl.length c])) bz (fun k => bz ≤ k) (.slice A vl.length c) vl) := ⟨Kd.R_step HO.out (fun k hk _ => setCells_heap gx k (by omega) _ _ _)⟩; generalize w4.setCells gx 2 (Array.toList #[.int .i64 vi, .int .i64 vg, .int .i64 vn, .slice A vl.length c]) = wr at HH2 HI2 HB2 HO2 ⊢; clear HH HI HB HO; have HH := HH2; have HI := HI2; have HB := HB2; have HO := HO2; clear HH2 HI2 HB2 HO2; have c12 := HH.out.cell (i := 12) (v := .int .i64 0) rfl; have u12 := HH.out.free 12; have c13 := HH.out.cell (i := 13) (v := .int .i64 0) rfl; have u13 := HH.out.free 13))
      have HH2 : Aside0 (Blk ((wr.setCell ⟨gx, 12, none⟩ (.int .i64 (fr : Int))).setCell ⟨gx, 13, none⟩ (.int .i64 (tl : Int))) gx #[.int .i64 (q : Int), .int .i64 (d : Int), .int .i64 vi, .int .i64 vg, .int .i64 vn, .slice A vl.length c, .string ⟨#[]⟩, .int .i64 0, .int .i64 0, .int .i64 0, .string ⟨#[]⟩, .string ⟨#[]⟩, .int .i64 (fr : Int), .int .i64 (tl : Int)] 55) := ⟨(HH.out.set 12 (.int .i64 (fr : Int))).set 13 (.int .i64 (tl : Int))⟩
      have HI2 : Aside0 (IsS127 v ((wr.setCell ⟨gx, 12, none⟩ (.int .i64 (fr : Int))).setCell ⟨gx, 13, none⟩ (.int .i64 (tl : Int))) g (B s5.1) s5.2) := ⟨(HI.out.far (p := ⟨gx, 12, none⟩) (by show g ≠ gx; omega) _).far (p := ⟨gx, 13, none⟩) (by show g ≠ gx; omega) _⟩
      have HB2 : Aside0 (Below v.heap.size v ((wr.setCell ⟨gx, 12, none⟩ (.int .i64 (fr : Int))).setCell ⟨gx, 13, none⟩ (.int .i64 (tl : Int)))) := ⟨(HB.out.setCell (p := ⟨gx, 12, none⟩) (by show v.heap.size ≤ gx; omega) _).setCell (p := ⟨gx, 13, none⟩) (by show v.heap.size ≤ gx; omega) _⟩
      have HO2 : Aside0 (Kd.R k83 83 ((wr.setCell ⟨gx, 12, none⟩ (.int .i64 (fr : Int))).setCell ⟨gx, 13, none⟩ (.int .i64 (tl : Int))) bz (fun k => bz ≤ k) (.slice A vl.length c) vl) := ⟨Kd.R_far (Kd.R_far HO.out (p := ⟨gx, 12, none⟩) (fun k hk => by show k ≠ gx; omega) _) (p := ⟨gx, 13, none⟩) (fun k hk => by show k ≠ gx; omega) _⟩
      generalize (wr.setCell ⟨gx, 12, none⟩ (.int .i64 (fr : Int))).setCell ⟨gx, 13, none⟩ (.int .i64 (tl : Int)) = wr at HH2 HI2 HB2 HO2 ⊢
      clear HH HI HB HO
      have HH := HH2
      have HI := HI2
      have HB := HB2
      have HO := HO2
      clear HH2 HI2 HB2 HO2
      obtain ⟨r2, HE⟩ : ∃ r2, pack_Reader_End.f (B s5.1) s5.2 = some (endE s5, r2, endE s5) := by rcases rend_f s5 with h | h <;> exact ⟨_, h⟩
      refine Calls.mono (pack_Reader_End.calls g _ _ _ _ _ v _ HI.out HB.out HE) ?_
      clear HE
      rintro e w4 ⟨rfl, hI4, hB4, hK4⟩
      replace HB := Aside0.mk hB4
      have HX : Aside0 (Blk w4 gx (rv (⟨(q : Int), (d : Int), vi, vg, vn, vl, ⟨#[]⟩, 0, 0, 0, ⟨#[]⟩, ⟨#[]⟩, (fr : Int), (tl : Int)⟩ : RecP) A c) 55) := ⟨HH.out.but hK4 (by omega)⟩
      replace HO := Aside0.mk (Kd.R_keep HO.out hK4 (fun k hk => by omega))
      clear hI4 hB4 hK4 HI HH
      generalize endE s5 = en at HRES ⊢
      by_cases h1 : en = 0
      case neg =>
        replace HRES := Lib.hid (HRES.out.trans (if_neg (fun h => h1 h.2.1)))
        have h4 : (en != 0) = true := bne_iff_ne.mpr h1
        replace HR := Aside0.mk (HR.out.keep HB.out)
        go_wp2_with (first | (refine gate_ (.store 55 (.tmp 2) (.tmp 83)) rfl ?_; refine wpList_store_row rfl 55 (.tmp 2) (.tmp 83) rfl w.heap.size (rv zeroR none 0) rfl rfl 55 _ HR.out (by kernel_rfl) rfl (rv_one _ _ _) ?_; simp only [Act.put, List.setIfInBounds_toArray, List.set_cons_zero, List.set_cons_succ]))
        refine bodyPost_ret (results_row_tmp rfl _ _ w.heap.size 55 (rv zeroR none 0) (0, 0) _ rfl (setRow_heap _ _ _ _ _ _ HR.out) Try.underlying55 rfl (by kernel_rfl)) rfl ?_
        rw [HRES.out]
        exact ⟨none, 0, rfl, Kd.R_nil _ _ _ _ _, below_setRow' (HBv.out.trans (HB.out.mono HBv.out.size)) (Nat.le_refl _) _⟩
      subst h1
      go_wp2_with (first | (refine gate_ (.load 55 (.tmp 8)) rfl ?_; refine gate_guard (by rfl) ?_; refine wpList_load_row rfl 55 (.tmp 8) rfl gx rfl _ (rv (⟨(q : Int), (d : Int), vi, vg, vn, vl, ⟨#[]⟩, 0, 0, 0, ⟨#[]⟩, ⟨#[]⟩, (fr : Int), (tl : Int)⟩ : RecP) A c) (0, 0) _ HX.out Try.underlying55 rfl (by kernel_rfl) ?_; simp only [Act.put, List.setIfInBounds_toArray, List.set_cons_zero, List.set_cons_succ]) | (refine gate_ (.load 55 (.tmp 8)) rfl ?_; refine wpList_load_row rfl 55 (.tmp 8) rfl gx rfl _ (rv (⟨(q : Int), (d : Int), vi, vg, vn, vl, ⟨#[]⟩, 0, 0, 0, ⟨#[]⟩, ⟨#[]⟩, (fr : Int), (tl : Int)⟩ : RecP) A c) (0, 0) _ HX.out Try.underlying55 rfl (by kernel_rfl) ?_; simp only [Act.put, List.setIfInBounds_toArray, List.set_cons_zero, List.set_cons_succ]))
      refine (rchk_calls (⟨(q : Int), (d : Int), vi, vg, vn, vl, ⟨#[]⟩, 0, 0, 0, ⟨#[]⟩, ⟨#[]⟩, (fr : Int), (tl : Int)⟩ : RecP) A c w4 (Kd.R_reads' HO.out).2.2 HL9.out (Kd.R_reads' HO.out).2.1).mono ?_
      rintro e w5 ⟨rfl, b1⟩
      replace HX := Aside0.mk (HX.out.keep b1)
      replace HB := Aside0.mk (below2 HB.out HB.out.size b1)
      replace HO := Aside0.mk (Kd.R_below HO.out b1)
      clear b1
      replace HR := Aside0.mk (HR.out.keep HB.out)
      obtain ⟨ck, hck⟩ : ∃ z, chkR (⟨(q : Int), (d : Int), vi, vg, vn, vl, ⟨#[]⟩, 0, 0, 0, ⟨#[]⟩, ⟨#[]⟩, (fr : Int), (tl : Int)⟩ : RecP) = z := ⟨_, rfl⟩
      rw [hck] at HRES ⊢
      clear hck
      by_cases h2 : ck = 0
      case neg =>
        replace HRES := Lib.hid (HRES.out.trans (if_neg (fun h => h2 h.2.2)))
        have h4 : (ck != 0) = true := bne_iff_ne.mpr h2
        go_wp2_with (first | (refine gate_ (.store 55 (.tmp 2) (.tmp 83)) rfl ?_; refine wpList_store_row rfl 55 (.tmp 2) (.tmp 83) rfl w.heap.size (rv zeroR none 0) rfl rfl 55 _ HR.out (by kernel_rfl) rfl (rv_one _ _ _) ?_; simp only [Act.put, List.setIfInBounds_toArray, List.set_cons_zero, List.set_cons_succ]))
        refine bodyPost_ret (results_row_tmp rfl _ _ w.heap.size 55 (rv zeroR none 0) (0, 0) _ rfl (setRow_heap _ _ _ _ _ _ HR.out) Try.underlying55 rfl (by kernel_rfl)) rfl ?_
        rw [HRES.out]
        exact ⟨none, 0, rfl, Kd.R_nil _ _ _ _ _, below_setRow' (HBv.out.trans (HB.out.mono HBv.out.size)) (Nat.le_refl _) _⟩
      subst h2
      replace HRES := Lib.hid (HRES.out.trans (if_pos (by simp [hib])))
      go_wp2_with (first | (refine gate_ (.load 55 (.tmp 8)) rfl ?_; refine wpList_load_row rfl 55 (.tmp 8) rfl gx rfl _ (rv (⟨(q : Int), (d : Int), vi, vg, vn, vl, ⟨#[]⟩, 0, 0, 0, ⟨#[]⟩, ⟨#[]⟩, (fr : Int), (tl : Int)⟩ : RecP) A c) (0, 0) _ HX.out Try.underlying55 rfl (by kernel_rfl) ?_; simp only [Act.put, List.setIfInBounds_toArray, List.set_cons_zero, List.set_cons_succ]) | (refine gate_ (.store 55 (.tmp 2) (.tmp 84)) rfl ?_; refine wpList_store_row rfl 55 (.tmp 2) (.tmp 84) rfl w.heap.size (rv (⟨(q : Int), (d : Int), vi, vg, vn, vl, ⟨#[]⟩, 0, 0, 0, ⟨#[]⟩, ⟨#[]⟩, (fr : Int), (tl : Int)⟩ : RecP) A c) rfl rfl 55 _ HR.out (by kernel_rfl) rfl (rv_one _ _ _) ?_; simp only [Act.put, List.setIfInBounds_toArray, List.set_cons_zero, List.set_cons_succ]))
      refine bodyPost_ret (results_row_tmp rfl _ _ w.heap.size 55 (rv (⟨(q : Int), (d : Int), vi, vg, vn, vl, ⟨#[]⟩, 0, 0, 0, ⟨#[]⟩, ⟨#[]⟩, (fr : Int), (tl : Int)⟩ : RecP) A c) (0, 0) _ rfl (setRow_heap _ _ _ _ _ _ HR.out) Try.underlying55 rfl (by kernel_rfl)) rfl ?_
      rw [HRES.out]
      have hO : Kd.R k83 83 (w5.setRow w.heap.size (rv (⟨(q : Int), (d : Int), vi, vg, vn, vl, ⟨#[]⟩, 0, 0, 0, ⟨#[]⟩, ⟨#[]⟩, (fr : Int), (tl : Int)⟩ : RecP) A c)) bz (fun k => bz ≤ k) (.slice A vl.length c) vl := Kd.R_step HO.out (fun k hk _ => setRow_other w5 w.heap.size k _ (by omega))
      exact ⟨A, c, rfl, Kd.R_mono (Kd.R_lower hO (by omega)) (fun k hk => by omega), below_setRow' (HBv.out.trans (HB.out.mono HBv.out.size)) (Nat.le_refl _) _⟩
  have hd0 : d = 0 := by omega
  obtain ⟨⟨kt, s4⟩, e3⟩ : ∃ p, tx s3 = p := ⟨_, rfl⟩
  obtain ⟨⟨o, s5⟩, e4⟩ : ∃ p, nx s4 = p := ⟨_, rfl⟩
  obtain ⟨⟨ln, s6⟩, e5⟩ : ∃ p, nx s5 = p := ⟨_, rfl⟩
  obtain ⟨⟨dg, s7⟩, e6⟩ : ∃ p, rst s6 = p := ⟨_, rfl⟩
  have hs4 := tx_st1 hs3 e3
  have hs5 := nx_st1 hs4 e4
  have HN3 := Lib.hid (txt_st s3 hs3 e3)
  have HN4 := Lib.hid (num_st s4 hs4 e4)
  have HN5 := Lib.hid (num_st s5 hs5 e5)
  have HN6 := Lib.hid (rst_st s6 e6)
  have hK : recK q d s2 = ((⟨(q : Int), (d : Int), vi, vg, vn, vl, B kt, vi, (o : Int), (ln : Int), B dg, ⟨#[]⟩, 0, 0⟩ : RecP), s7) := by unfold recK; rw [if_neg hd1, if_pos hd0]; simp only [ev, e3, e4, e5, e6]
  rw [hK] at HRES
  simp only at HRES
  clear hK
  have HL9 : Hid ((⟨(q : Int), (d : Int), vi, vg, vn, vl, B kt, vi, (o : Int), (ln : Int), B dg, ⟨#[]⟩, 0, 0⟩ : RecP).locs.length ≤ 1000) := Lib.hid (by show vl.length ≤ 1000; rw [h9]; decide)
  have f1 : ((d : Int) == 1) = false := beq_eq_false_iff_ne.mpr (by omega)
  have f0 : ((d : Int) == 0) = true := beq_iff_eq.mpr (by omega)
  have f2 : ((d : Int) == 2) = false := beq_eq_false_iff_ne.mpr (by omega)
  have f3 : ((d : Int) == 3) = false := beq_eq_false_iff_ne.mpr (by omega)
  clear ev e3 e4 e5 e6 h9 hs3 hs4 hs5 hd1 hd2 hd3 hdd hd0
  go_wp2_with (first | (refine gate_ (.store 55 (.tmp 8) (.tmp 29)) rfl ?_; refine wpList_store_row rfl 55 (.tmp 8) (.tmp 29) rfl w4.heap.size #[.int .i64 (q : Int), .int .i64 (d : Int), .int .i64 0, .int .i64 0, .int .i64 0, .slice none 0 0, .string ⟨#[]⟩, .int .i64 0, .int .i64 0, .int .i64 0, .string ⟨#[]⟩, .string ⟨#[]⟩, .int .i64 0, .int .i64 0] rfl rfl 55 _ (Blk.new _ _ _) (by kernel_rfl) rfl (by simp [Value.oneCell']) ?_; simp only [Act.put, List.setIfInBounds_toArray, List.set_cons_zero, List.set_cons_succ]; have hp := put_new w4 #[.int .i64 0, .int .i64 0, .int .i64 0, .int .i64 0, .int .i64 0, .slice none 0 0, .string ⟨#[]⟩, .int .i64 0, .int .i64 0, .int .i64 0, .string ⟨#[]⟩, .string ⟨#[]⟩, .int .i64 0, .int .i64 0] #[.int .i64 (q : Int), .int .i64 (d : Int), .int .i64 0, .int .i64 0, .int .i64 0, .slice none 0 0, .string ⟨#[]⟩, .int .i64 0, .int .i64 0, .int .i64 0, .string ⟨#[]⟩, .string ⟨#[]⟩, .int .i64 0, .int .i64 0] 55; have HB2 := Aside0.mk (HB.out.trans (hp.2.mono HB.out.size)); have HI2 := Aside0.mk (HI.out.below hp.2); generalize (w4.alloc (.cells #[.int .i64 0, .int .i64 0, .int .i64 0, .int .i64 0, .int .i64 0, .slice none 0 0, .string ⟨#[]⟩, .int .i64 0, .int .i64 0, .int .i64 0, .string ⟨#[]⟩, .string ⟨#[]⟩, .int .i64 0, .int .i64 0] 55)).setRow w4.heap.size #[.int .i64 (q : Int), .int .i64 (d : Int), .int .i64 0, .int .i64 0, .int .i64 0, .slice none 0 0, .string ⟨#[]⟩, .int .i64 0, .int .i64 0, .int .i64 0, .string ⟨#[]⟩, .string ⟨#[]⟩, .int .i64 0, .int .i64 0] = wr at hp HB2 HI2 ⊢; clear HB HI; have HB := HB2; have HI := HI2; clear HB2 HI2; have HH := Aside0.mk hp.1; clear hp; generalize w4.heap.size = gx at HH hgx ⊢; have c1 := HH.out.cell (i := 1) (v := .int .i64 (d : Int)) rfl))
  have hgz : gx < wr.heap.size := HH.out.lt
  refine Calls.mono (vol_calls_st g s2 v _ hs2 HI.out HB.out HEV.out) ?_
  rintro e w4 ⟨A, c, rfl, hO, hI4, hB4, hK4⟩
  have HO := Aside0.mk hO
  clear hO HEV
  generalize wr.heap.size = bz at HO hgz
  replace HI := Aside0.mk hI4
  replace HB := Aside0.mk hB4
  replace HH := Aside0.mk (HH.out.but hK4 (by omega))
  clear hI4 hB4 hK4
  go_wp2_with (first | (refine gate_ (.store 29 (.tmp 41) (.tmp 40)) rfl ?_; refine wpList_store_mid rfl 29 (.tmp 41) (.tmp 40) rfl gx 2 #[.int .i64 vi, .int .i64 vg, .int .i64 vn, .slice A vl.length c] rfl rfl (HH.out.there 2 4 (show 6 ≤ 14 by decide)) (by kernel_rfl) (by simp [Value.oneCell']) ?_; simp only [Act.put, List.setIfInBounds_toArray, List.set_cons_zero, List.set_cons_succ]; have HH2 : Aside0 (Blk (w4.setCells gx 2 (Array.toList #[.int .i64 vi, .int .i64 vg, .int .i64 vn, .slice A vl.length c])) gx #[.int .i64 (q : Int), .int .i64 (d : Int), .int .i64 vi, .int .i64 vg, .int .i64 vn, .slice A vl.length c, .string ⟨#[]⟩, .int .i64 0, .int .i64 0, .int .i64 0, .string ⟨#[]⟩, .string ⟨#[]⟩, .int .i64 0, .int .i64 0] 55) := ⟨HH.out.setCells _ 2⟩; have HI2 : Aside0 (IsS127 v (w4.setCells gx 2 (Array.toList #[.int .i64 vi, .int .i64 vg, .int .i64 vn, .slice A vl.length c])) g (B s3.1) s3.2) := ⟨⟨Blk.setCells_other (by omega) _ 2 HI.out.1, HI.out.2⟩⟩; have HB2 : Aside0 (Below v.heap.size v (w4.setCells gx 2 (Array.toList #[.int .i64 vi, .int .i64 vg, .int .i64 vn, .slice A vl.length c]))) := ⟨below_setCells (by omega) _ 2 HB.out⟩; have HO2 : Aside0 (Kd.R k83 83 (w4.setCells gx 2 (Array.toList #[.int .i64 vi, .int .i64 vg, .int .i64 vn, .slice A vl.length c])) bz (fun k => bz ≤ k) (.slice A vl.length c) vl) := ⟨Kd.R_step HO.out (fun k hk _ => setCells_heap gx k (by omega) _ _ _)⟩; generalize w4.setCells gx 2 (Array.toList #[.int .i64 vi, .int .i64 vg, .int .i64 vn, .slice A vl.length c]) = wr at HH2 HI2 HB2 HO2 ⊢; clear HH HI HB HO; have HH := HH2; have HI := HI2; have HB := HB2; have HO := HO2; clear HH2 HI2 HB2 HO2))
  have HB2 : Aside0 (Below v.heap.size v wr.drew) := ⟨HB.out.drew⟩
  have HI2 : Aside0 (IsS127 v wr.drew g (B s3.1) s3.2) := ⟨HI.out⟩
  have HH2 : Aside0 (Blk wr.drew gx #[.int .i64 (q : Int), .int .i64 (d : Int), .int .i64 vi, .int .i64 vg, .int .i64 vn, .slice A vl.length c, .string ⟨#[]⟩, .int .i64 0, .int .i64 0, .int .i64 0, .string ⟨#[]⟩, .string ⟨#[]⟩, .int .i64 0, .int .i64 0] 55) := ⟨HH.out⟩
  have HO2 : Aside0 (Kd.R k83 83 wr.drew bz (fun k => bz ≤ k) (.slice A vl.length c) vl) := ⟨Kd.R_drew HO.out⟩
  clear HB HI HH HO
  have HB := HB2
  have HI := HI2
  have HH := HH2
  have HO := HO2
  clear HB2 HI2 HH2 HO2
  refine start_ (n := 14) (S := fun w' => w'.cell? ⟨gx, 2, none⟩ = some (.int .i64 vi)) (ds := [13]) #[false, false, false, false, false, false, false, false, false, false, false, false, false, false] (by kernel_rfl) rfl rfl ((HH.out.cell (i := 2) (v := .int .i64 vi) rfl)) (fun hHeld => ?_)
  refine pure_ (i := 0) (N := some 42) (v := ?_) (a' := ?_) #[true, false, false, false, false, false, false, false, false, false, false, false, false, false] rfl rfl (by kernel_rfl) (fun _ _ _ h => h) (Or.inl ⟨by rfl, ?_⟩) ?_ ?_
  rotate_left
  · intro w'
    go_simp
    with_reducible rfl
  rotate_left
  · simp only [Act.put, List.setIfInBounds_toArray, List.set_cons_zero, List.set_cons_succ]
    rfl
  refine pure_ (i := 2) (N := some 44) (v := ?_) (a' := ?_) #[true, false, true, false, false, false, false, false, false, false, false, false, false, false] rfl rfl (by kernel_rfl) (fun _ _ _ h => h) (Or.inl ⟨by rfl, ?_⟩) ?_ ?_
  rotate_left
  · intro w'
    go_simp
    with_reducible rfl
  rotate_left
  · simp only [Act.put, List.setIfInBounds_toArray, List.set_cons_zero, List.set_cons_succ]
    rfl
  refine pure_ (i := 3) (N := some 45) (v := ?_) (a' := ?_) #[true, false, true, true, false, false, false, false, false, false, false, false, false, false] rfl rfl (by kernel_rfl) (fun _ _ _ h => h) (Or.inl ⟨by rfl, ?_⟩) ?_ ?_
  rotate_left
  · intro w'
    go_simp
    with_reducible rfl
  rotate_left
  · simp only [Act.put, List.setIfInBounds_toArray, List.set_cons_zero, List.set_cons_succ]
    rfl
  refine pure_ (i := 5) (N := some 47) (v := ?_) (a' := ?_) #[true, false, true, true, false, true, false, false, false, false, false, false, false, false] rfl rfl (by kernel_rfl) (fun _ _ _ h => h) (Or.inl ⟨by rfl, ?_⟩) ?_ ?_
  rotate_left
  · intro w'
    go_simp
    with_reducible rfl
  rotate_left
  · simp only [Act.put, List.setIfInBounds_toArray, List.set_cons_zero, List.set_cons_succ]
    rfl
  refine pure_ (i := 7) (N := some 49) (v := ?_) (a' := ?_) #[true, false, true, true, false, true, false, true, false, false, false, false, false, false] rfl rfl (by kernel_rfl) (fun _ _ _ h => h) (Or.inl ⟨by rfl, ?_⟩) ?_ ?_
  rotate_left
  · intro w'
    go_simp
    with_reducible rfl
  rotate_left
  · simp only [Act.put, List.setIfInBounds_toArray, List.set_cons_zero, List.set_cons_succ]
    rfl
  refine pure_ (i := 9) (N := some 51) (v := ?_) (a' := ?_) #[true, false, true, true, false, true, false, true, false, true, false, false, false, false] rfl rfl (by kernel_rfl) (fun _ _ _ h => h) (Or.inl ⟨by rfl, ?_⟩) ?_ ?_
  rotate_left
  · intro w'
    go_simp
    with_reducible rfl
  rotate_left
  · simp only [Act.put, List.setIfInBounds_toArray, List.set_cons_zero, List.set_cons_succ]
    rfl
  refine take_ (i := 4) (N := some 46) (v := ?_) (a' := ?_) #[true, false, true, true, true, true, false, true, false, true, false, false, false, false] rfl rfl (by kernel_rfl) (fun _ _ _ h => h) (Or.inl ⟨by rfl, ?_⟩) hHeld ?_ ?_
  rotate_left
  · intro w' s0
    go_simp
    with_reducible rfl
  rotate_left
  · simp only [Act.put, List.setIfInBounds_toArray, List.set_cons_zero, List.set_cons_succ]
    rfl
  refine one_ (i := 1) (N := some 43) #[true, true, true, true, true, true, false, true, false, true, false, false, false, false] rfl rfl (by kernel_rfl) (by decide) (fun K hK => ?_)
  refine goes_ Try.func63 (by kernel_rfl) rfl #[.pointer (some ⟨g, 0, none⟩)] (by rfl) rfl rfl (by simp only [List.map_toArray, List.map_cons, List.map_nil]; rfl) ?_
  with_reducible refine (pack_Reader_Text.calls 21 g _ _ _ _ _ v _ HI.out HB.out HN3.out).mono ?_
  rintro e w4 ⟨rfl, hI4, hB4, hK4⟩
  refine ⟨_, rfl, ?_⟩
  replace HI := Aside0.mk hI4
  replace HB := Aside0.mk hB4
  replace HH := Aside0.mk (HH.out.but hK4 (by omega))
  replace HO := Aside0.mk (Kd.R_keep HO.out hK4 (fun k hk => by omega))
  clear hI4 hB4 hK4
  refine hK.out _ _ ((HH.out.cell (i := 2) (v := .int .i64 vi) rfl)) (fun hHeld => ?_)
  clear hK K
  refine norm_ (a' := ?_) ?_ ?_
  rotate_left
  · show Act.put _ (some 43) _ = _
    simp only [Act.put, List.setIfInBounds_toArray, List.set_cons_zero, List.set_cons_succ]
    rfl
  refine one_ (i := 6) (N := some 48) #[true, true, true, true, true, true, true, true, false, true, false, false, false, false] rfl rfl (by kernel_rfl) (by decide) (fun K hK => ?_)
  refine goes_ Try.func62 (by kernel_rfl) rfl #[.pointer (some ⟨g, 0, none⟩)] (by rfl) rfl rfl (by simp only [List.map_toArray, List.map_cons, List.map_nil]; rfl) ?_
  with_reducible refine (pack_Reader_Number.calls 20 g _ _ _ _ _ v _ HI.out HB.out HN4.out).mono ?_
  rintro e w4 ⟨rfl, hI4, hB4, hK4⟩
  refine ⟨_, rfl, ?_⟩
  replace HI := Aside0.mk hI4
  replace HB := Aside0.mk hB4
  replace HH := Aside0.mk (HH.out.but hK4 (by omega))
  replace HO := Aside0.mk (Kd.R_keep HO.out hK4 (fun k hk => by omega))
  clear hI4 hB4 hK4
  refine hK.out _ _ ((HH.out.cell (i := 2) (v := .int .i64 vi) rfl)) (fun hHeld => ?_)
  clear hK K
  refine norm_ (a' := ?_) ?_ ?_
  rotate_left
  · show Act.put _ (some 48) _ = _
    simp only [Act.put, List.setIfInBounds_toArray, List.set_cons_zero, List.set_cons_succ]
    rfl
  refine one_ (i := 8) (N := some 50) #[true, true, true, true, true, true, true, true, true, true, false, false, false, false] rfl rfl (by kernel_rfl) (by decide) (fun K hK => ?_)
  refine goes_ Try.func62 (by kernel_rfl) rfl #[.pointer (some ⟨g, 0, none⟩)] (by rfl) rfl rfl (by simp only [List.map_toArray, List.map_cons, List.map_nil]; rfl) ?_
  with_reducible refine (pack_Reader_Number.calls 20 g _ _ _ _ _ v _ HI.out HB.out HN5.out).mono ?_
  rintro e w4 ⟨rfl, hI4, hB4, hK4⟩
  refine ⟨_, rfl, ?_⟩
  replace HI := Aside0.mk hI4
  replace HB := Aside0.mk hB4
  replace HH := Aside0.mk (HH.out.but hK4 (by omega))
  replace HO := Aside0.mk (Kd.R_keep HO.out hK4 (fun k hk => by omega))
  clear hI4 hB4 hK4
  refine hK.out _ _ ((HH.out.cell (i := 2) (v := .int .i64 vi) rfl)) (fun hHeld => ?_)
  clear hK K
  refine norm_ (a' := ?_) ?_ ?_
  rotate_left
  · show Act.put _ (some 50) _ = _
    simp only [Act.put, List.setIfInBounds_toArray, List.set_cons_zero, List.set_cons_succ]
    rfl
  refine one_ (i := 10) (N := some 52) #[true, true, true, true, true, true, true, true, true, true, true, false, false, false] rfl rfl (by kernel_rfl) (by decide) (fun K hK => ?_)
  refine goes_ Try.func65 (by kernel_rfl) rfl #[.pointer (some ⟨g, 0, none⟩)] (by rfl) rfl rfl (by simp only [List.map_toArray, List.map_cons, List.map_nil]; rfl) ?_
  with_reducible refine (pack_Reader_Rest.calls g _ _ _ _ _ v _ HI.out HB.out HN6.out).mono ?_
  rintro e w4 ⟨rfl, hI4, hB4, hK4⟩
  refine ⟨_, rfl, ?_⟩
  replace HI := Aside0.mk hI4
  replace HB := Aside0.mk hB4
  replace HH := Aside0.mk (HH.out.but hK4 (by omega))
  replace HO := Aside0.mk (Kd.R_keep HO.out hK4 (fun k hk => by omega))
  clear hI4 hB4 hK4
  refine hK.out _ _ ((HH.out.cell (i := 2) (v := .int .i64 vi) rfl)) (fun hHeld => ?_)
  clear hK K
  refine norm_ (a' := ?_) ?_ ?_
  rotate_left
  · show Act.put _ (some 52) _ = _
    simp only [Act.put, List.setIfInBounds_toArray, List.set_cons_zero, List.set_cons_succ]
    rfl
  refine pure_ (i := 11) (N := some 53) (v := ?_) (a' := ?_) #[true, true, true, true, true, true, true, true, true, true, true, true, false, false] rfl rfl (by kernel_rfl) (fun _ _ _ h => h) (Or.inl ⟨by rfl, ?_⟩) ?_ ?_
  rotate_left
  · intro w'
    go_simp
    with_reducible rfl
  rotate_left
  · simp only [Act.put, List.setIfInBounds_toArray, List.set_cons_zero, List.set_cons_succ]
    rfl
  refine pure_ (i := 12) (N := some 54) (v := ?_) (a' := ?_) #[true, true, true, true, true, true, true, true, true, true, true, true, true, false] rfl rfl (by kernel_rfl) (fun _ _ _ h => h) (Or.inl ⟨by rfl, ?_⟩) ?_ ?_
  rotate_left
  · intro w'
    go_simp
    with_reducible rfl
  rotate_left
  · simp only [Act.put, List.setIfInBounds_toArray, List.set_cons_zero, List.set_cons_succ]
    rfl
  refine last_ (i := 13) (N := none) #[true, true, true, true, true, true, true, true, true, true, true, true, true, true] rfl rfl (by kernel_rfl) (by decide) (fun K hK => ?_)
  refine skip_ (by rfl) rfl (st_run _ 31 (.tmp 54) (.tmp 53) HH.out 6 #[.string (B kt), .int .i64 vi, .int .i64 (o : Int), .int .i64 (ln : Int), .string (B dg)] (show 11 ≤ 14 by decide) rfl rfl (by kernel_rfl) (by simp [Value.oneCell']) rfl) ?_
  refine hK.out _ _ ?_
  clear hK K
  refine done_ (by kernel_rfl) ?_
  clear hHeld
  cases hib : isb with
  | false =>
    replace HRES := Lib.hid (HRES.out.trans (if_neg (fun h => by rw [hib] at h; cases h.1)))
    have HB2 : Aside0 (Below v.heap.size v (w4.setCells gx 6 (Array.toList #[.string (B kt), .int .i64 vi, .int .i64 (o : Int), .int .i64 (ln : Int), .string (B dg)]))) := ⟨below_setCells (by omega) _ 6 HB.out⟩
    clear HB
    have HB := HB2
    clear HB2
    replace HR := Aside0.mk (HR.out.keep HB.out)
    go_wp2_with (first | (refine gate_ (.store 55 (.tmp 2) (.tmp 83)) rfl ?_; refine wpList_store_row rfl 55 (.tmp 2) (.tmp 83) rfl w.heap.size (rv zeroR none 0) rfl rfl 55 _ HR.out (by kernel_rfl) rfl (rv_one _ _ _) ?_; simp only [Act.put, List.setIfInBounds_toArray, List.set_cons_zero, List.set_cons_succ]))
    refine bodyPost_ret (results_row_tmp rfl _ _ w.heap.size 55 (rv zeroR none 0) (0, 0) _ rfl (setRow_heap _ _ _ _ _ _ HR.out) Try.underlying55 rfl (by kernel_rfl)) rfl ?_
    rw [HRES.out]
    exact ⟨none, 0, rfl, Kd.R_nil _ _ _ _ _, below_setRow' (HBv.out.trans (HB.out.mono HBv.out.size)) (Nat.le_refl _) _⟩
  | true =>
    have HH2 : Aside0 (Blk (w4.setCells gx 6 (Array.toList #[.string (B kt), .int .i64 vi, .int .i64 (o : Int), .int .i64 (ln : Int), .string (B dg)])) gx #[.int .i64 (q : Int), .int .i64 (d : Int), .int .i64 vi, .int .i64 vg, .int .i64 vn, .slice A vl.length c, .string (B kt), .int .i64 vi, .int .i64 (o : Int), .int .i64 (ln : Int), .string (B dg), .string ⟨#[]⟩, .int .i64 0, .int .i64 0] 55) := ⟨HH.out.setCells _ 6⟩
    have HI2 : Aside0 (IsS127 v (w4.setCells gx 6 (Array.toList #[.string (B kt), .int .i64 vi, .int .i64 (o : Int), .int .i64 (ln : Int), .string (B dg)])) g (B s7.1) s7.2) := ⟨⟨Blk.setCells_other (by omega) _ 6 HI.out.1, HI.out.2⟩⟩
    have HB2 : Aside0 (Below v.heap.size v (w4.setCells gx 6 (Array.toList #[.string (B kt), .int .i64 vi, .int .i64 (o : Int), .int .i64 (ln : Int), .string (B dg)]))) := ⟨below_setCells (by omega) _ 6 HB.out⟩
    have HO2 : Aside0 (Kd.R k83 83 (w4.setCells gx 6 (Array.toList #[.string (B kt), .int .i64 vi, .int .i64 (o : Int), .int .i64 (ln : Int), .string (B dg)])) bz (fun k => bz ≤ k) (.slice A vl.length c) vl) := ⟨Kd.R_step HO.out (fun k hk _ => setCells_heap gx k (by omega) _ _ _)⟩
    generalize w4.setCells gx 6 (Array.toList #[.string (B kt), .int .i64 vi, .int .i64 (o : Int), .int .i64 (ln : Int), .string (B dg)]) = wr at HH2 HI2 HB2 HO2 ⊢
    clear HH HI HB HO
    have HH := HH2
    have HI := HI2
    have HB := HB2
    have HO := HO2
    clear HH2 HI2 HB2 HO2
    go_wp2_with fail
    obtain ⟨r2, HE⟩ : ∃ r2, pack_Reader_End.f (B s7.1) s7.2 = some (endE s7, r2, endE s7) := by rcases rend_f s7 with h | h <;> exact ⟨_, h⟩
    refine Calls.mono (pack_Reader_End.calls g _ _ _ _ _ v _ HI.out HB.out HE) ?_
    clear HE
    rintro e w4 ⟨rfl, hI4, hB4, hK4⟩
    replace HB := Aside0.mk hB4
    have HX : Aside0 (Blk w4 gx (rv (⟨(q : Int), (d : Int), vi, vg, vn, vl, B kt, vi, (o : Int), (ln : Int), B dg, ⟨#[]⟩, 0, 0⟩ : RecP) A c) 55) := ⟨HH.out.but hK4 (by omega)⟩
    replace HO := Aside0.mk (Kd.R_keep HO.out hK4 (fun k hk => by omega))
    clear hI4 hB4 hK4 HI HH
    generalize endE s7 = en at HRES ⊢
    by_cases h1 : en = 0
    case neg =>
      replace HRES := Lib.hid (HRES.out.trans (if_neg (fun h => h1 h.2.1)))
      have h4 : (en != 0) = true := bne_iff_ne.mpr h1
      replace HR := Aside0.mk (HR.out.keep HB.out)
      go_wp2_with (first | (refine gate_ (.store 55 (.tmp 2) (.tmp 83)) rfl ?_; refine wpList_store_row rfl 55 (.tmp 2) (.tmp 83) rfl w.heap.size (rv zeroR none 0) rfl rfl 55 _ HR.out (by kernel_rfl) rfl (rv_one _ _ _) ?_; simp only [Act.put, List.setIfInBounds_toArray, List.set_cons_zero, List.set_cons_succ]))
      refine bodyPost_ret (results_row_tmp rfl _ _ w.heap.size 55 (rv zeroR none 0) (0, 0) _ rfl (setRow_heap _ _ _ _ _ _ HR.out) Try.underlying55 rfl (by kernel_rfl)) rfl ?_
      rw [HRES.out]
      exact ⟨none, 0, rfl, Kd.R_nil _ _ _ _ _, below_setRow' (HBv.out.trans (HB.out.mono HBv.out.size)) (Nat.le_refl _) _⟩
    subst h1
    go_wp2_with (first | (refine gate_ (.load 55 (.tmp 8)) rfl ?_; refine gate_guard (by rfl) ?_; refine wpList_load_row rfl 55 (.tmp 8) rfl gx rfl _ (rv (⟨(q : Int), (d : Int), vi, vg, vn, vl, B kt, vi, (o : Int), (ln : Int), B dg, ⟨#[]⟩, 0, 0⟩ : RecP) A c) (0, 0) _ HX.out Try.underlying55 rfl (by kernel_rfl) ?_; simp only [Act.put, List.setIfInBounds_toArray, List.set_cons_zero, List.set_cons_succ]) | (refine gate_ (.load 55 (.tmp 8)) rfl ?_; refine wpList_load_row rfl 55 (.tmp 8) rfl gx rfl _ (rv (⟨(q : Int), (d : Int), vi, vg, vn, vl, B kt, vi, (o : Int), (ln : Int), B dg, ⟨#[]⟩, 0, 0⟩ : RecP) A c) (0, 0) _ HX.out Try.underlying55 rfl (by kernel_rfl) ?_; simp only [Act.put, List.setIfInBounds_toArray, List.set_cons_zero, List.set_cons_succ]))
    refine (rchk_calls (⟨(q : Int), (d : Int), vi, vg, vn, vl, B kt, vi, (o : Int), (ln : Int), B dg, ⟨#[]⟩, 0, 0⟩ : RecP) A c w4 (Kd.R_reads' HO.out).2.2 HL9.out (Kd.R_reads' HO.out).2.1).mono ?_
    rintro e w5 ⟨rfl, b1⟩
    replace HX := Aside0.mk (HX.out.keep b1)
    replace HB := Aside0.mk (below2 HB.out HB.out.size b1)
    replace HO := Aside0.mk (Kd.R_below HO.out b1)
    clear b1
    replace HR := Aside0.mk (HR.out.keep HB.out)
    obtain ⟨ck, hck⟩ : ∃ z, chkR (⟨(q : Int), (d : Int), vi, vg, vn, vl, B kt, vi, (o : Int), (ln : Int), B dg, ⟨#[]⟩, 0, 0⟩ : RecP) = z := ⟨_, rfl⟩
    rw [hck] at HRES ⊢
    clear hck
    by_cases h2 : ck = 0
    case neg =>
      replace HRES := Lib.hid (HRES.out.trans (if_neg (fun h => h2 h.2.2)))
      have h4 : (ck != 0) = true := bne_iff_ne.mpr h2
      go_wp2_with (first | (refine gate_ (.store 55 (.tmp 2) (.tmp 83)) rfl ?_; refine wpList_store_row rfl 55 (.tmp 2) (.tmp 83) rfl w.heap.size (rv zeroR none 0) rfl rfl 55 _ HR.out (by kernel_rfl) rfl (rv_one _ _ _) ?_; simp only [Act.put, List.setIfInBounds_toArray, List.set_cons_zero, List.set_cons_succ]))
      refine bodyPost_ret (results_row_tmp rfl _ _ w.heap.size 55 (rv zeroR none 0) (0, 0) _ rfl (setRow_heap _ _ _ _ _ _ HR.out) Try.underlying55 rfl (by kernel_rfl)) rfl ?_
      rw [HRES.out]
      exact ⟨none, 0, rfl, Kd.R_nil _ _ _ _ _, below_setRow' (HBv.out.trans (HB.out.mono HBv.out.size)) (Nat.le_refl _) _⟩
    subst h2
    replace HRES := Lib.hid (HRES.out.trans (if_pos (by simp [hib])))
    go_wp2_with (first | (refine gate_ (.load 55 (.tmp 8)) rfl ?_; refine wpList_load_row rfl 55 (.tmp 8) rfl gx rfl _ (rv (⟨(q : Int), (d : Int), vi, vg, vn, vl, B kt, vi, (o : Int), (ln : Int), B dg, ⟨#[]⟩, 0, 0⟩ : RecP) A c) (0, 0) _ HX.out Try.underlying55 rfl (by kernel_rfl) ?_; simp only [Act.put, List.setIfInBounds_toArray, List.set_cons_zero, List.set_cons_succ]) | (refine gate_ (.store 55 (.tmp 2) (.tmp 84)) rfl ?_; refine wpList_store_row rfl 55 (.tmp 2) (.tmp 84) rfl w.heap.size (rv (⟨(q : Int), (d : Int), vi, vg, vn, vl, B kt, vi, (o : Int), (ln : Int), B dg, ⟨#[]⟩, 0, 0⟩ : RecP) A c) rfl rfl 55 _ HR.out (by kernel_rfl) rfl (rv_one _ _ _) ?_; simp only [Act.put, List.setIfInBounds_toArray, List.set_cons_zero, List.set_cons_succ]))
    refine bodyPost_ret (results_row_tmp rfl _ _ w.heap.size 55 (rv (⟨(q : Int), (d : Int), vi, vg, vn, vl, B kt, vi, (o : Int), (ln : Int), B dg, ⟨#[]⟩, 0, 0⟩ : RecP) A c) (0, 0) _ rfl (setRow_heap _ _ _ _ _ _ HR.out) Try.underlying55 rfl (by kernel_rfl)) rfl ?_
    rw [HRES.out]
    have hO : Kd.R k83 83 (w5.setRow w.heap.size (rv (⟨(q : Int), (d : Int), vi, vg, vn, vl, B kt, vi, (o : Int), (ln : Int), B dg, ⟨#[]⟩, 0, 0⟩ : RecP) A c)) bz (fun k => bz ≤ k) (.slice A vl.length c) vl := Kd.R_step HO.out (fun k hk _ => setRow_other w5 w.heap.size k _ (by omega))
    exact ⟨A, c, rfl, Kd.R_mono (Kd.R_lower hO (by omega)) (fun k hk => by omega), below_setRow' (HBv.out.trans (HB.out.mono HBv.out.size)) (Nat.le_refl _) _⟩
end Go.Proofs.Ytmfcbfgijimliaa
end
section
namespace Go.Proofs.Ytmfcbfgijimliaa
open Go.RowKit Q Go.Proofs.YtmfcbfgijimliaaW.PrintWords Go.Proofs.YtmfcbfgijimliaaW.PrintLast
set_option linter.unusedSimpArgs false
theorem enc2K (a b : Nat) : encK [a, b] 2 = enc a ++ enc b := by simp [encK]
theorem enc3K (a b c : Nat) : encK [a, b, c] 3 = enc a ++ enc b ++ enc c := by simp [encK]
def locsC : List S83 → List UInt8
  | [] => []
  | x :: r => enc x.f0.toNat ++ (enc x.f1.toNat ++ locsC r)
theorem locsC_append : ∀ a b : List S83, locsC (a ++ b) = locsC a ++ locsC b
  | [], _ => rfl
  | x :: r, b => by
    show enc x.f0.toNat ++ (enc x.f1.toNat ++ locsC (r ++ b)) = _
    rw [locsC_append r b]
    simp [locsC]
theorem locsT_C (l : List S83) : ∀ k : Nat, k ≤ l.length → locsT l k = locsC (l.take k)
  | 0, _ => rfl
  | k + 1, h => by
    have hk : k < l.length := h
    rw [locsT, locsT_C l k (by omega), List.take_add_one, List.getElem?_eq_getElem hk, locsC_append, enc2K]
    have : rd_T83 l k = l[k] := by
      unfold rd_T83
      simp [List.getD, List.getElem?_eq_getElem hk]
    rw [this]
    simp [locsC]
theorem locsT_all (l : List S83) : locsT l l.length = locsC l := by rw [locsT_C l _ (Nat.le_refl _), List.take_of_length_le (Nat.le_refl _)]
theorem locsN_back (r : List UInt8) : ∀ l : List S83, (∀ x ∈ l, (0 ≤ x.f0 ∧ x.f0 ≤ 11) ∧ (0 ≤ x.f1 ∧ x.f1 ≤ 47)) → locsN l.length (locsC l ++ r, 0) = (l, r, 0)
  | [], _ => rfl
  | x :: t, h => by
    have hx := h x (List.mem_cons_self ..)
    have ih := locsN_back r t (fun y hy => h y (List.mem_cons_of_mem _ hy))
    have e1 := nx_enc x.f0.toNat (enc x.f1.toNat ++ (locsC t ++ r)) (by omega)
    have e2 := nx_enc x.f1.toNat (locsC t ++ r) (by omega)
    have e0 : locsC (x :: t) ++ r = enc x.f0.toNat ++ (enc x.f1.toNat ++ (locsC t ++ r)) := by simp [locsC]
    show (⟨((nx (locsC (x :: t) ++ r, 0)).1 : Int), ((nx (nx (locsC (x :: t) ++ r, 0)).2).1 : Int)⟩ :: (locsN t.length (nx (nx (locsC (x :: t) ++ r, 0)).2).2).1, (locsN t.length (nx (nx (locsC (x :: t) ++ r, 0)).2).2).2) = _
    rw [e0, e1]
    simp only
    rw [e2]
    simp only
    rw [ih]
    simp only
    rw [Int.toNat_of_nonneg hx.1.1, Int.toNat_of_nonneg hx.2.1]
theorem tx_txt (s r : List UInt8) (h : s.length < 2 ^ 56) : tx (txt s ++ r, 0) = (s, r, 0) := by
  unfold tx
  simp only [if_true]
  exact tkT_txt s r h
theorem volS_back {i g n : Int} {l : List S83} (h : VolOk i g n l) (r : List UInt8) : volS (enc i.toNat ++ (enc g.toNat ++ (enc n.toNat ++ (locsC l ++ r))), 0) = ((i, g, n, l), r, 0) := by
  have hi := h.i
  have hg := h.g
  have hn := h.n
  have e1 := nx_enc i.toNat (enc g.toNat ++ (enc n.toNat ++ (locsC l ++ r))) (by omega)
  have e2 := nx_enc g.toNat (enc n.toNat ++ (locsC l ++ r)) (by omega)
  have e3 := nx_enc n.toNat (locsC l ++ r) (by omega)
  have e4 := locsN_back r l (by
    intro x hx
    obtain ⟨k, hk, rfl⟩ := List.getElem_of_mem hx
    have := h.locs k (by have := h.nine; omega)
    have hr : rd_T83 l k = l[k] := by
      unfold rd_T83
      simp [List.getD, List.getElem?_eq_getElem hk]
    rw [hr] at this
    exact this)
  rw [h.nine] at e4
  unfold volS
  rw [e1]
  simp only
  rw [e2]
  simp only
  rw [e3]
  simp only
  rw [e4]
  simp only
  rw [Int.toNat_of_nonneg hi.1, Int.toNat_of_nonneg hg.1, Int.toNat_of_nonneg hn.1]
theorem back_0 (q0 q2 q3 q4 : Int) (l : List S83) (q6 : ByteArray) (q7 q8 q9 : Int) (q10 q11 : ByteArray) (q12 q13 : Int) (h : chkR (⟨q0, 0, q2, q3, q4, l, q6, q7, q8, q9, q10, q11, q12, q13⟩ : RecP) = 0) : recT (⟨q0, 0, q2, q3, q4, l, q6, q7, q8, q9, q10, q11, q12, q13⟩ : RecP) = [83, 74] ++ (enc q0.toNat ++ (enc 0 ++ (enc q2.toNat ++ (enc q3.toNat ++ (enc q4.toNat ++ (locsC l ++ (txt q6.data.toList ++ (enc q8.toNat ++ (enc q9.toNat ++ q10.data.toList))))))))) ∧ recS (enc q0.toNat ++ (enc 0 ++ (enc q2.toNat ++ (enc q3.toNat ++ (enc q4.toNat ++ (locsC l ++ (txt q6.data.toList ++ (enc q8.toNat ++ (enc q9.toNat ++ q10.data.toList))))))))) = ((⟨q0, 0, q2, q3, q4, l, q6, q7, q8, q9, q10, q11, q12, q13⟩ : RecP), [], 0) := by
  obtain ⟨h0, hv, hk, h7, h8, h9, h10, hn⟩ := chk0_0 q0 q2 q3 q4 l q6 q7 q8 q9 q10 q11 q12 q13 h
  refine ⟨?_, ?_⟩
  · simp [recT, headT, volT, enc2K, enc3K, locsT_all]
  unfold recS
  rw [nx_enc _ _ (by omega)]
  simp only
  rw [nx_enc _ _ (by decide)]
  simp only
  unfold recK
  rw [if_neg (by decide), if_pos rfl]
  rw [volS_back hv]
  simp only
  rw [tx_txt _ _ (by have := (key_ok hk).1; omega)]
  simp only
  have hvn := hv.n
  rw [nx_enc _ _ (by omega)]
  simp only
  rw [nx_enc _ _ (by omega)]
  simp only [rst, if_true]
  rw [← hn]
  simp [namedP, B_eta, Int.toNat_of_nonneg h0.1, Int.toNat_of_nonneg h8.1, Int.toNat_of_nonneg h9.1, h7]
theorem back_1 (q0 q2 q3 q4 : Int) (l : List S83) (q6 : ByteArray) (q7 q8 q9 : Int) (q10 q11 : ByteArray) (q12 q13 : Int) (h : chkR (⟨q0, 1, q2, q3, q4, l, q6, q7, q8, q9, q10, q11, q12, q13⟩ : RecP) = 0) : recT (⟨q0, 1, q2, q3, q4, l, q6, q7, q8, q9, q10, q11, q12, q13⟩ : RecP) = [83, 74] ++ (enc q0.toNat ++ (enc 1 ++ (txt q11.data.toList ++ []))) ∧ recS (enc q0.toNat ++ (enc 1 ++ (txt q11.data.toList ++ []))) = ((⟨q0, 1, q2, q3, q4, l, q6, q7, q8, q9, q10, q11, q12, q13⟩ : RecP), [], 0) := by
  obtain ⟨h0, hk, hn⟩ := chk0_1 q0 q2 q3 q4 l q6 q7 q8 q9 q10 q11 q12 q13 h
  refine ⟨?_, ?_⟩
  · simp [recT, headT, volT, enc2K, enc3K, locsT_all]
  unfold recS
  rw [nx_enc _ _ (by omega)]
  simp only
  rw [nx_enc _ _ (by decide)]
  simp only
  unfold recK
  rw [if_pos rfl]
  rw [tx_txt _ _ (by have := (key_ok hk).1; omega)]
  simp only
  rw [← hn]
  simp [namedP, B_eta, Int.toNat_of_nonneg h0.1]
theorem back_2 (q0 q2 q3 q4 : Int) (l : List S83) (q6 : ByteArray) (q7 q8 q9 : Int) (q10 q11 : ByteArray) (q12 q13 : Int) (h : chkR (⟨q0, 2, q2, q3, q4, l, q6, q7, q8, q9, q10, q11, q12, q13⟩ : RecP) = 0) : recT (⟨q0, 2, q2, q3, q4, l, q6, q7, q8, q9, q10, q11, q12, q13⟩ : RecP) = [83, 74] ++ (enc q0.toNat ++ (enc 2 ++ (enc q2.toNat ++ (enc q3.toNat ++ (enc q4.toNat ++ (locsC l ++ ([]))))))) ∧ recS (enc q0.toNat ++ (enc 2 ++ (enc q2.toNat ++ (enc q3.toNat ++ (enc q4.toNat ++ (locsC l ++ ([]))))))) = ((⟨q0, 2, q2, q3, q4, l, q6, q7, q8, q9, q10, q11, q12, q13⟩ : RecP), [], 0) := by
  obtain ⟨h0, hv, hn⟩ := chk0_2 q0 q2 q3 q4 l q6 q7 q8 q9 q10 q11 q12 q13 h
  refine ⟨?_, ?_⟩
  · simp [recT, headT, volT, enc2K, enc3K, locsT_all]
  unfold recS
  rw [nx_enc _ _ (by omega)]
  simp only
  rw [nx_enc _ _ (by decide)]
  simp only
  unfold recK
  rw [if_neg (by decide), if_neg (by decide), if_pos rfl]
  rw [volS_back hv]
  rw [← hn]
  simp [namedP, Int.toNat_of_nonneg h0.1]
theorem back_3 (q0 q2 q3 q4 : Int) (l : List S83) (q6 : ByteArray) (q7 q8 q9 : Int) (q10 q11 : ByteArray) (q12 q13 : Int) (h : chkR (⟨q0, 3, q2, q3, q4, l, q6, q7, q8, q9, q10, q11, q12, q13⟩ : RecP) = 0) : recT (⟨q0, 3, q2, q3, q4, l, q6, q7, q8, q9, q10, q11, q12, q13⟩ : RecP) = [83, 74] ++ (enc q0.toNat ++ (enc 3 ++ (enc q2.toNat ++ (enc q3.toNat ++ (enc q4.toNat ++ (locsC l ++ (enc q12.toNat ++ (enc q13.toNat ++ [])))))))) ∧ recS (enc q0.toNat ++ (enc 3 ++ (enc q2.toNat ++ (enc q3.toNat ++ (enc q4.toNat ++ (locsC l ++ (enc q12.toNat ++ (enc q13.toNat ++ [])))))))) = ((⟨q0, 3, q2, q3, q4, l, q6, q7, q8, q9, q10, q11, q12, q13⟩ : RecP), [], 0) := by
  obtain ⟨h0, hv, hf, ht, _, hn⟩ := chk0_3 q0 q2 q3 q4 l q6 q7 q8 q9 q10 q11 q12 q13 h
  refine ⟨?_, ?_⟩
  · simp [recT, headT, volT, enc2K, enc3K, locsT_all]
  unfold recS
  rw [nx_enc _ _ (by omega)]
  simp only
  rw [nx_enc _ _ (by decide)]
  simp only
  unfold recK
  rw [if_neg (by decide), if_neg (by decide), if_neg (by decide), if_pos rfl]
  rw [volS_back hv]
  simp only
  rw [nx_enc _ _ (by omega)]
  simp only
  rw [nx_enc _ _ (by omega)]
  rw [← hn]
  simp [namedP, Int.toNat_of_nonneg h0.1, Int.toNat_of_nonneg hf.1, Int.toNat_of_nonneg ht.1]
theorem recS_back (r : RecP) (h : chkR r = 0) : ∃ p, recT r = [83, 74] ++ p ∧ recS p = (r, [], 0) := by
  have hk := kind_chk r h
  obtain ⟨q0, q1, q2, q3, q4, l, q6, q7, q8, q9, q10, q11, q12, q13⟩ := r
  rcases hk with e | e | e | e
  · change q1 = 0 at e; subst e; exact ⟨_, back_0 q0 q2 q3 q4 l q6 q7 q8 q9 q10 q11 q12 q13 h⟩
  · change q1 = 1 at e; subst e; exact ⟨_, back_1 q0 q2 q3 q4 l q6 q7 q8 q9 q10 q11 q12 q13 h⟩
  · change q1 = 2 at e; subst e; exact ⟨_, back_2 q0 q2 q3 q4 l q6 q7 q8 q9 q10 q11 q12 q13 h⟩
  · change q1 = 3 at e; subst e; exact ⟨_, back_3 q0 q2 q3 q4 l q6 q7 q8 q9 q10 q11 q12 q13 h⟩
theorem cutJ_SJ (p : List UInt8) : cutJ ([83, 74] ++ p) = (p, true) := by
  unfold cutJ
  rw [if_pos (by simp)]
  rfl
theorem recR_back (r : RecP) (h : chkR r = 0) : recR (sealL (recT r)) = (r, 0) := by
  obtain ⟨p, hp, hs⟩ := recS_back r h
  have hu : openL (sealL (recT r)) = (B (recT r), 0) := openL_seal _
  have hc : cutJ (openL (sealL (recT r))).1.data.toList = (p, true) := by
    rw [hu]
    show cutJ (recT r) = _
    rw [hp, cutJ_SJ]
  unfold recR
  rw [if_pos (show (openL (sealL (recT r))).2 = 0 by rw [hu])]
  rw [if_pos (show _ ∧ _ ∧ _ from ⟨by rw [hc], by rw [hc]; simp only; rw [hs]; rfl, by rw [hc]; simp only; rw [hs]; exact h⟩), hc]
  simp only
  rw [hs]
end Go.Proofs.Ytmfcbfgijimliaa
end
section
namespace Go.Proofs.Ytmfcbfgijimliaa
open Go.RowKit Q Go.Proofs.YtmfcbfgijimliaaW.PrintWords Go.Proofs.YtmfcbfgijimliaaW.PrintLast Go.Proofs.YtmfcbfgijimliaaW.PrintMore
theorem write_rv (r : RecP) (A : Option Addr) (c : Nat) (w : World) (h : RV w r A c) (hl : r.locs.length ≤ 1000) : Calls Try.prog 24 #[.agg (rv r A c)] w fun e w' => e = .returned (.tuple #[.string (recW r).1, .int .i64 (recW r).2]) ∧ Below w.heap.size w w' := recwrite_calls r A c w h.1 hl h.2
theorem same_rv (a b : RecP) (A D : Option Addr) (c d : Nat) (w : World) (ha : RV w a A c) (hb : RV w b D d) (h1 : a.locs.length ≤ 1000) : Calls Try.prog 29 #[.agg (rv a A c), .agg (rv b D d)] w fun e w' => e = .returned (.bool (decide (a = b))) ∧ Below w.heap.size w w' := sames_calls a b A D c d w ha.1 hb.1 ha.2 hb.2 h1
theorem recR_locs (m : List UInt8) : (recR m).1.locs.length ≤ 9 := by
  unfold recR
  split
  · split
    · exact recS_locs _
    · exact Nat.zero_le _
  · exact Nat.zero_le _
theorem vol_mem {i g n : Int} {l : List S83} (h : VolOk i g n l) : ∀ x ∈ l, (0 ≤ x.f0 ∧ x.f0 ≤ 11) ∧ (0 ≤ x.f1 ∧ x.f1 ≤ 47) := by
  intro x hx
  obtain ⟨k, hk, rfl⟩ := List.getElem_of_mem hx
  have := h.locs k (by have := h.nine; omega)
  have hr : rd_T83 l k = l[k] := by
    unfold rd_T83
    simp [List.getD, List.getElem?_eq_getElem hk]
  rwa [hr] at this
theorem locsC_len : ∀ l : List S83, (∀ x ∈ l, (0 ≤ x.f0 ∧ x.f0 ≤ 11) ∧ (0 ≤ x.f1 ∧ x.f1 ≤ 47)) → (locsC l).length = 2 * l.length
  | [], _ => rfl
  | x :: r, h => by
    have hx := h x (List.mem_cons_self ..)
    have ih := locsC_len r (fun y hy => h y (List.mem_cons_of_mem _ hy))
    show (enc x.f0.toNat ++ (enc x.f1.toNat ++ locsC r)).length = _
    rw [enc_lt (by omega), enc_lt (by omega), List.length_append, List.length_append, ih]
    simp only [List.length_cons, List.length_nil]
    omega
theorem lenT_0 (q0 q2 q3 q4 : Int) (l : List S83) (q6 : ByteArray) (q7 q8 q9 : Int) (q10 q11 : ByteArray) (q12 q13 : Int) (h : chkR (⟨q0, 0, q2, q3, q4, l, q6, q7, q8, q9, q10, q11, q12, q13⟩ : RecP) = 0) : (recT (⟨q0, 0, q2, q3, q4, l, q6, q7, q8, q9, q10, q11, q12, q13⟩ : RecP)).length ≤ 148 := by
  rw [(back_0 q0 q2 q3 q4 l q6 q7 q8 q9 q10 q11 q12 q13 h).1]
  obtain ⟨h0, hv, hk, h7, h8, h9, h10, _⟩ := chk0_0 q0 q2 q3 q4 l q6 q7 q8 q9 q10 q11 q12 q13 h
  have ev := locsC_len l (vol_mem hv)
  rw [hv.nine] at ev
  have hi := hv.i
  have hg := hv.g
  have hn := hv.n
  have e0 := enc_len8 (m := q0.toNat) (by omega)
  have e1 := enc_len8 (m := 0) (by omega)
  have e2 := enc_len8 (m := q2.toNat) (by omega)
  have e3 := enc_len8 (m := q3.toNat) (by omega)
  have e4 := enc_len8 (m := q4.toNat) (by omega)
  have e5 := enc_len8 (m := q8.toNat) (by omega)
  have e6 := enc_len8 (m := q9.toNat) (by omega)
  have hk2 := (key_ok hk).1
  have ht := txt_le q6.data.toList (by omega)
  have hd : q10.data.toList.length = q10.size := size_data _
  simp only [List.length_append, List.length_cons, List.length_nil, ev]
  omega
theorem lenT_1 (q0 q2 q3 q4 : Int) (l : List S83) (q6 : ByteArray) (q7 q8 q9 : Int) (q10 q11 : ByteArray) (q12 q13 : Int) (h : chkR (⟨q0, 1, q2, q3, q4, l, q6, q7, q8, q9, q10, q11, q12, q13⟩ : RecP) = 0) : (recT (⟨q0, 1, q2, q3, q4, l, q6, q7, q8, q9, q10, q11, q12, q13⟩ : RecP)).length ≤ 148 := by
  rw [(back_1 q0 q2 q3 q4 l q6 q7 q8 q9 q10 q11 q12 q13 h).1]
  obtain ⟨h0, hk, _⟩ := chk0_1 q0 q2 q3 q4 l q6 q7 q8 q9 q10 q11 q12 q13 h
  have e0 := enc_len8 (m := q0.toNat) (by omega)
  have e1 := enc_len8 (m := 1) (by omega)
  have hk2 := (key_ok hk).1
  have ht := txt_le q11.data.toList (by omega)
  simp only [List.length_append, List.length_cons, List.length_nil]
  omega
theorem lenT_2 (q0 q2 q3 q4 : Int) (l : List S83) (q6 : ByteArray) (q7 q8 q9 : Int) (q10 q11 : ByteArray) (q12 q13 : Int) (h : chkR (⟨q0, 2, q2, q3, q4, l, q6, q7, q8, q9, q10, q11, q12, q13⟩ : RecP) = 0) : (recT (⟨q0, 2, q2, q3, q4, l, q6, q7, q8, q9, q10, q11, q12, q13⟩ : RecP)).length ≤ 148 := by
  rw [(back_2 q0 q2 q3 q4 l q6 q7 q8 q9 q10 q11 q12 q13 h).1]
  obtain ⟨h0, hv, _⟩ := chk0_2 q0 q2 q3 q4 l q6 q7 q8 q9 q10 q11 q12 q13 h
  have ev := locsC_len l (vol_mem hv)
  rw [hv.nine] at ev
  have hi := hv.i
  have hg := hv.g
  have hn := hv.n
  have e0 := enc_len8 (m := q0.toNat) (by omega)
  have e1 := enc_len8 (m := 2) (by omega)
  have e2 := enc_len8 (m := q2.toNat) (by omega)
  have e3 := enc_len8 (m := q3.toNat) (by omega)
  have e4 := enc_len8 (m := q4.toNat) (by omega)
  simp only [List.length_append, List.length_cons, List.length_nil, ev]
  omega
theorem lenT_3 (q0 q2 q3 q4 : Int) (l : List S83) (q6 : ByteArray) (q7 q8 q9 : Int) (q10 q11 : ByteArray) (q12 q13 : Int) (h : chkR (⟨q0, 3, q2, q3, q4, l, q6, q7, q8, q9, q10, q11, q12, q13⟩ : RecP) = 0) : (recT (⟨q0, 3, q2, q3, q4, l, q6, q7, q8, q9, q10, q11, q12, q13⟩ : RecP)).length ≤ 148 := by
  rw [(back_3 q0 q2 q3 q4 l q6 q7 q8 q9 q10 q11 q12 q13 h).1]
  obtain ⟨h0, hv, hf, ht, _, _⟩ := chk0_3 q0 q2 q3 q4 l q6 q7 q8 q9 q10 q11 q12 q13 h
  have ev := locsC_len l (vol_mem hv)
  rw [hv.nine] at ev
  have hi := hv.i
  have hg := hv.g
  have hn := hv.n
  have e0 := enc_len8 (m := q0.toNat) (by omega)
  have e1 := enc_len8 (m := 3) (by omega)
  have e2 := enc_len8 (m := q2.toNat) (by omega)
  have e3 := enc_len8 (m := q3.toNat) (by omega)
  have e4 := enc_len8 (m := q4.toNat) (by omega)
  have e5 := enc_len8 (m := q12.toNat) (by omega)
  have e6 := enc_len8 (m := q13.toNat) (by omega)
  simp only [List.length_append, List.length_cons, List.length_nil, ev]
  omega
theorem lenT (r : RecP) (h : chkR r = 0) : (recT r).length ≤ 148 := by
  have hk := kind_chk r h
  obtain ⟨q0, q1, q2, q3, q4, l, q6, q7, q8, q9, q10, q11, q12, q13⟩ := r
  rcases hk with e | e | e | e
  · change q1 = 0 at e; subst e; exact lenT_0 q0 q2 q3 q4 l q6 q7 q8 q9 q10 q11 q12 q13 h
  · change q1 = 1 at e; subst e; exact lenT_1 q0 q2 q3 q4 l q6 q7 q8 q9 q10 q11 q12 q13 h
  · change q1 = 2 at e; subst e; exact lenT_2 q0 q2 q3 q4 l q6 q7 q8 q9 q10 q11 q12 q13 h
  · change q1 = 3 at e; subst e; exact lenT_3 q0 q2 q3 q4 l q6 q7 q8 q9 q10 q11 q12 q13 h
theorem recW_len (r : RecP) : (recW r).1.size ≤ 152 := by
  unfold recW
  split
  · rename_i h
    have := lenT r h
    rw [B_size, sealL_len]
    omega
  · rw [B_size]
    exact Nat.zero_le _
end Go.Proofs.Ytmfcbfgijimliaa
end
section
namespace Go.Proofs.Ytmfcbfgijimliaa
end Go.Proofs.Ytmfcbfgijimliaa
end
section
namespace Go.Proofs.Ytmfcbfgijimliaa
open Go.RowKit Q Go.Proofs.YtmfcbfgijimliaaW.PrintWords Go.Proofs.YtmfcbfgijimliaaW.PrintLast Go.Proofs.YtmfcbfgijimliaaW.PrintMore
def kRv : Kd RecP where
  sz := 14
  E := 83 :: k83.E
  K := fun w r cs => ∃ A c, cs = (rv r A c).toList ∧ RV w r A c
  M := fun w base ok r cs => ∃ A c, cs = (rv r A c).toList ∧ Kd.R k83 83 w base ok (.slice A r.locs.length c) r.locs
  K_len := by
    rintro w r cs ⟨A, c, rfl, _⟩
    rfl
  K_one := by
    rintro w r cs ⟨A, c, rfl, _⟩ u hu
    have h := rv_one r A c
    rw [← Array.all_toList] at h
    exact List.all_eq_true.mp h u hu
  K_below := by
    rintro w w1 r cs hb ⟨A, c, rfl, h⟩
    exact ⟨A, c, rfl, h.below hb⟩
  K_of_M := by
    rintro w base ok r cs ⟨A, c, rfl, h⟩
    have h2 := Kd.R_reads' h
    exact ⟨A, c, rfl, h2.2.2, h2.2.1⟩
  M_mono := by
    rintro w base ok ok' r cs hok ⟨A, c, rfl, h⟩
    exact ⟨A, c, rfl, Kd.R_mono h hok⟩
  M_bound := by
    rintro w base ok r cs ⟨A, c, rfl, h⟩
    exact ⟨A, c, rfl, Kd.R_bound h⟩
  M_move := by
    rintro w w1 base ok r cs hm ⟨A, c, rfl, h⟩
    exact ⟨A, c, rfl, Kd.R_move h hm⟩
  M_lower := by
    rintro w base base' ok r cs hb ⟨A, c, rfl, h⟩
    exact ⟨A, c, rfl, Kd.R_lower h hb⟩
def LR (w : World) (A : Option Addr) (c : Nat) (L : List RecP) : Prop := Kd.C kRv w A L.length L ∧ L.length ≤ c
theorem LR.below {w w' : World} {A : Option Addr} {c : Nat} {L : List RecP} (h : LR w A c L) (b : Below w.heap.size w w') : LR w' A c L := ⟨Kd.C_below h.1 b, h.2⟩
theorem LR.nil (w : World) (c : Nat) : LR w none c [] := ⟨⟨rfl, by simp, fun h => absurd h (Nat.lt_irrefl 0)⟩, Nat.zero_le _⟩
def Lie (w : World) (ad : Addr) (cs : List Value) : Prop := ∀ j v, cs[j]? = some v → w.cell? (ad.add j) = some v
theorem Lie.keep {w w' : World} {n : Nat} {ad : Addr} {cs : List Value} (h : Lie w ad cs) (hp : cs ≠ []) (b : Below n w w') (hn : ∀ p v, w.cell? p = some v → p.block < n ∨ w.heap.size ≤ n) : Lie w' ad cs := fun j v hj => by
  have h1 := h j v hj
  rcases hn _ _ h1 with hlt | hle
  · exact (b.cell hlt).trans h1
  · exact (b.cell (Nat.lt_of_lt_of_le (World.block_lt_of_cell? w _ h1) hle)).trans h1
theorem Lie.below {w w' : World} {ad : Addr} {cs : List Value} (h : Lie w ad cs) (b : Below w.heap.size w w') : Lie w' ad cs := fun j v hj => (b.cell (World.block_lt_of_cell? w _ (h j v hj))).trans (h j v hj)
theorem add_add (ad : Addr) (i j : Nat) : (ad.add i).add j = ad.add (i + j) := by
  unfold Addr.add
  by_cases hi : i = 0
  · simp [hi]
  · by_cases hj : j = 0
    · simp [hj]
    · simp [hi, hj, Nat.add_assoc]
theorem LR.at {w : World} {A : Option Addr} {c : Nat} {L : List RecP} (h : LR w A c L) (i : Nat) (hi : i < L.length) : ∃ ad A' c', A = some ad ∧ RV w L[i] A' c' ∧ Lie w (ad.add (i * 14)) (rv L[i] A' c').toList := by
  obtain ⟨ad, e, hc⟩ := h.1.2.2 (by omega)
  obtain ⟨cs, _, ⟨A', c', rfl, hr⟩, hcell⟩ := hc i _ (List.getElem?_eq_getElem hi)
  exact ⟨ad, A', c', e, hr, fun j v hj => by rw [add_add]; exact hcell j v hj⟩
theorem LR.take {w : World} {A : Option Addr} {c : Nat} {L : List RecP} (h : LR w A c L) (k : Nat) (hk : k ≤ L.length) : LR w A c (L.take k) := by
  have hl : (L.take k).length = k := by rw [List.length_take]; omega
  refine ⟨⟨rfl, by have := h.1.2.1; omega, fun hp => ?_⟩, by have := h.2; omega⟩
  obtain ⟨ad, e, hc⟩ := h.1.2.2 (by omega)
  refine ⟨ad, e, fun j p hj => hc j p ?_⟩
  rw [List.getElem?_take] at hj
  by_cases hjk : j < k
  · rw [if_pos hjk] at hj
    exact hj
  · rw [if_neg hjk] at hj
    exact absurd hj (by simp)
section
variable {P : Program}
theorem run_loadAt_lie (w : World) (ad : Addr) (ty : TypeId) (cs : List Value) (d : TypeDesc) (hc : Lie w ad cs) (hu : P.underlying ty = some d) (hd : d.isRow = true) (hi : (P.info? ty).map (·.size) = some cs.length) : (Instr.loadAt ty (.pointer (some ad))).run P w = .ok (.agg cs.toArray) w := by
  have hl := run_loadCells_list (P := P) (w := w) ad cs hc
  cases hq : P.info? ty with
  | none => simp [hq] at hi
  | some i =>
    have hs : i.size = cs.length := by simpa [hq] using hi
    have hagg : (isAgg ty).run P w = .ok true w := by
      unfold isAgg
      rw [Sem.run_bind, run_underlying hu w]
      cases d <;> simp_all
    simp [Instr.loadAt, Instr.sureAddr, loadVar, Sem.run_bind, hagg, sizeOf, typeInfo, hq, hs, hl]
theorem wpList_load_lie {ops : Array Oper} {rest : List Oper} {o : Oper} {a : Act} {w : World} {Q : Exit → Act → World → Prop} (hgd : o.guard = none) (ty : TypeId) (x : Operand) (ho : o.op = .load ty x) (ad : Addr) (hx : a.eval x = .pointer (some ad)) (cs : List Value) (d : TypeDesc) (hc : Lie w ad cs) (hu : P.underlying ty = some d) (hd : d.isRow = true) (hi : (P.info? ty).map (·.size) = some cs.length) (h : wpList P ops Q rest (a.put o.dst (.agg cs.toArray)) w) : wpList P ops Q (o :: rest) a w :=
  wpList_plain hgd fun _ hK => by
    unfold Oper.wp execOp
    simp only [ho, hx, Sem.run_bind, run_loadAt_lie w ad ty cs d hc hu hd hi, Result.andThen_ok, Sem.run_pure]
    exact hK _ _ h
end
theorem wpList_load_rv {P : Program} {ops : Array Oper} {rest : List Oper} {o : Oper} {a : Act} {w : World} {Q : Exit → Act → World → Prop} (hgd : o.guard = none) (ty : TypeId) (x : Operand) (ho : o.op = .load ty x) (ad : Addr) (hx : a.eval x = .pointer (some ad)) (r : RecP) (A : Option Addr) (c : Nat) (d : TypeDesc) (hc : Lie w ad (rv r A c).toList) (hu : P.underlying ty = some d) (hd : d.isRow = true) (hi : (P.info? ty).map (·.size) = some 14) (h : wpList P ops Q rest (a.put o.dst (.agg (rv r A c))) w) : wpList P ops Q (o :: rest) a w :=
  wpList_load_lie hgd ty x ho ad hx (rv r A c).toList d hc hu hd hi h
def Z14 : Array Value := #[.int .i64 0, .int .i64 0, .int .i64 0, .int .i64 0, .int .i64 0, .slice none 0 0, .string ⟨#[]⟩, .int .i64 0, .int .i64 0, .int .i64 0, .string ⟨#[]⟩, .string ⟨#[]⟩, .int .i64 0, .int .i64 0]
theorem fill_rv (r : RecP) (A : Option Addr) (c : Nat) : Instr.fill (fun i => some (i * 14, 14)) ((Array.range (1 * 14)).map ((Value.agg Z14).cells[· % (Value.agg Z14).cells.size]!)) [(0, .agg (rv r A c))] = some (rv r A c) := by kernel_rfl
section
variable {P : Program}
theorem wpListIn_build1 {F : Fence} {n : Nat} {ops : Array Oper} {rest : List Oper} {o : Oper} {a : Act} {w : World} {Q : Exit → Act → World → Prop} (hg : o.guard = none) (t e : TypeId) (x : Tmp) (ho : o.op = .buildSlice t 1 #[(0, .tmp x)]) (r : RecP) (A : Option Addr) (c b : Nat) (hx : a.eval (.tmp x) = .agg (rv r A c)) (hu : P.underlying t = some (.slice e)) (hi : (P.info? e).map (fun i => (i.zero, i.size, i.bytes)) = some (some (.agg Z14), 14, b))
    (h : wpListIn F n P ops Q rest (a.put o.dst (.slice (some ⟨w.heap.size, 0, none⟩) 1 1)) (w.alloc (.cells (rv r A c) e))) : wpListIn F n P ops Q (o :: rest) a w := by
  obtain ⟨i0, hi0, hz0, hz1, _⟩ := info_parts hi
  refine wpListIn_plain hg fun K hK => ?_
  unfold Oper.wpIn
  refine ⟨by simp [Oper.about, ho], ?_⟩
  rw [Oper.semAt_plain F _ _ (by rw [ho]; intro c hc; cases hc)]
  have hf : Instr.fill (fun i => some (i * i0.size, i0.size)) ((Array.range (1 * i0.size)).map ((Value.agg Z14).cells[· % (Value.agg Z14).cells.size]!)) (#[(0, .tmp x)].map fun (y : Nat × Operand) => (y.1, a.eval y.2)).toList = some (rv r A c) := by
    rw [hz1]
    simp only [List.map_toArray, List.map_cons, List.map_nil]
    rw [hx]
    exact fill_rv r A c
  simp only [execOp, ho, Sem.run_bind, run_buildSlice w t e 1 _ (rv r A c) i0 (.agg Z14) hu hi0 hz0 (by rw [hz1]; decide) (by rw [hz1]; decide) hf, Result.andThen_ok]
  exact hK _ _ h
theorem R_locs_apart {e base : Nat} {W : World} {v : Value} {L : List RecP} {r : RecP} {A : Option Addr} {c : Nat} (HO : Kd.R kRv e W base (fun k => base ≤ k) v L) (hp : Kd.R k83 83 W base (fun k => base ≤ k) (.slice A r.locs.length c) r.locs) (hte : ∀ q, q ∈ 83 :: k83.E → q ≠ e) : Kd.R k83 83 W base (fun k => base ≤ k ∧ some k ≠ v.ownBlock) (.slice A r.locs.length c) r.locs :=
  Kd.R_mono (Kd.R_bound hp) (fun k hk => ⟨hk.1, fun he => by
    obtain ⟨_, _, _, q, hq, cells, hc⟩ := hk
    obtain ⟨cells2, hc2⟩ := Kd.R_typed HO k he.symm
    rw [hc] at hc2
    injection hc2 with hc2
    injection hc2 with _ hc2
    exact hte q hq hc2⟩)
theorem wpListIn_appendR {F : Fence} {n : Nat} {ops : Array Oper} {rest : List Oper} {o : Oper} {a : Act} {W : World} {Q : Exit → Act → World → Prop} (hg : o.guard = none) (s x : Operand) (t e : TypeId) (hop : o.op = .call { callee := .builtin .append, args := #[s, x], argTypes := #[t, t] }) (base b : Nat) (hu : P.underlying t = some (.slice e)) (hi : (P.info? e).map (fun i => (i.zero, i.size, i.bytes)) = some (some (.agg Z14), 14, b)) (hb0 : 0 < b) (v : Value) (L : List RecP) (hs : a.eval s = v) (hx : a.eval x = .slice (some ⟨W.heap.size, 0, none⟩) 1 1) (r : RecP) (A : Option Addr) (c : Nat) (HO : Kd.R kRv e W base (fun k => base ≤ k) v L) (hp : Kd.R k83 83 W base (fun k => base ≤ k) (.slice A r.locs.length c) r.locs) (hte : ∀ q, q ∈ 83 :: k83.E → q ≠ e) (hbase : base ≤ W.heap.size) (hl : (L.length + 1) * b ≤ 140737488355328)
    (h : ∀ v1 w1, Kd.R kRv e w1 base (fun k => base ≤ k) v1 (L ++ [r]) → Below base W w1 → W.grownBy w1 v.ownBlock → wpListIn F n P ops Q rest (a.put o.dst v1) w1) : wpListIn F n P ops Q (o :: rest) a (W.alloc (.cells (rv r A c) e)) := by
  obtain ⟨i0, hi0, hz0, hz1, hz2⟩ := info_parts hi
  have hap := R_locs_apart HO hp hte
  have hbk := Kd.R_base HO
  obtain ⟨h0, inner, hown, hreps⟩ := HO
  have hlen : L.length + 1 ≤ 140737488355328 := Nat.le_trans (Nat.le_mul_of_pos_right _ hb0) hl
  obtain ⟨v1, w1, hrun, hown1, hgrow, _, hat⟩ := run_append_own_at (P := P) (w := W.alloc (.cells (rv r A c) e)) base t o.type e i0 (.agg Z14) 14 b hu hi0 hz0 hz1 hz2 rfl (by decide) v L.length inner (hown.alloc _) ⟨W.heap.size, 0, none⟩ 1 1 (rv r A c).toList rfl (by simpa using World.news_of_block (cs := rv r A c) (t := e) (fr := (0, 0)) (heap_alloc_new W (.cells (rv r A c) e))) (fun u hu2 => by have h2 := rv_one r A c; rw [← Array.all_toList] at h2; exact List.all_eq_true.mp h2 u hu2) (by simp only [maxLen]; omega) hl (by simp; omega)
  have hg1 := World.grownBy.trans (World.grownBy_alloc W (.cells (rv r A c) e) v.ownBlock) hgrow
  have hR : Kd.R kRv e w1 base (fun k => base ≤ k) v1 (L ++ [r]) := by
    refine Kd.R_appended (d := kRv) (W := W) (v := v) (okp := fun k => base ≤ k ∧ some k ≠ v.ownBlock) h0 hreps ⟨A, c, rfl, hap⟩ (fun _ hk => hk) (fun k hk => Nat.le_trans hbase hk) hown1 hg1 ?_
    rcases hat with hat | hat
    · exact .inl hat
    · exact .inr ⟨_, hat, by simp⟩
  refine wpListIn_plain hg fun K hK => ?_
  unfold Oper.wpIn
  refine ⟨?_, ?_⟩
  · simp [Oper.about, hop, resolve, Target.leads, Sem.run_pure]
  · rw [Oper.semAt_plain F _ _ (by rw [hop]; intro c hc'; cases hc')]
    simp [execOp, hop, resolve, invoke, builtin, hs, hx, hrun, Result.andThen]
    exact hK _ _ (h v1 w1 hR ((Below.refl _ W).grown hg1 hbase hbk) hg1)
end
theorem str_at {w : World} {A : Option Addr} {xs : List ByteArray} (h : Kd.C Kd.string w A xs.length xs) (k : Nat) (hk : k < xs.length) : ∃ ad, A = some ad ∧ w.cell? (ad.add k) = some (.string xs[k]) := by
  obtain ⟨ad, e, hc⟩ := Kd.at_string h (k : Int) (by omega) (by omega)
  refine ⟨ad, e, ?_⟩
  have : rdOf ByteArray.empty xs (k : Int) = xs[k] := by simp [rdOf, hk]
  rw [this] at hc
  exact hc
theorem meas_lt {n k : Nat} (h : k < n) : n - (intOf (.int .i64 ((k : Int) + 1))).toNat < n - (intOf (.int .i64 (k : Int))).toNat := by
  simp [intOf]
  omega
theorem drop_at {α : Type} {xs : List α} {k : Nat} (h : k < xs.length) : xs.drop k = xs[k] :: xs.drop (k + 1) := List.drop_eq_getElem_cons h
def preL : List ByteArray → Nat → List RecP
  | [], _ => []
  | s :: l, i => if (recR s.data.toList).2 = 0 ∧ (recR s.data.toList).1.seq = (i : Int) then (recR s.data.toList).1 :: preL l (i + 1) else []
theorem preL_cons (s : ByteArray) (l : List ByteArray) (i : Nat) : preL (s :: l) i = if (recR s.data.toList).2 = 0 ∧ (recR s.data.toList).1.seq = (i : Int) then (recR s.data.toList).1 :: preL l (i + 1) else [] := rfl
theorem preL_len : ∀ (l : List ByteArray) (i : Nat), (preL l i).length ≤ l.length
  | [], _ => Nat.zero_le _
  | s :: l, i => by
    unfold preL
    split
    · simp only [List.length_cons]
      exact Nat.succ_le_succ (preL_len l (i + 1))
    · exact Nat.zero_le _
theorem preL_locs : ∀ (l : List ByteArray) (i : Nat) (r : RecP), r ∈ preL l i → r.locs.length ≤ 9
  | [], _, r, h => by cases h
  | s :: l, i, r, h => by
    unfold preL at h
    split at h
    · rcases List.mem_cons.1 h with rfl | h
      · exact recR_locs _
      · exact preL_locs l (i + 1) r h
    · cases h
def begL (a b : List RecP) : Bool := decide (a = b.take a.length)
def chK (logs : List (List ByteArray)) : Nat → List RecP × Int
  | 0 => ([], -1)
  | k + 1 => if (chK logs k).2 < 0 ∨ (chK logs k).1.length < (preL (logs.getD k []) 0).length then (preL (logs.getD k []) 0, (k : Int)) else chK logs k
theorem chK_succ (logs : List (List ByteArray)) (k : Nat) : chK logs (k + 1) = if (chK logs k).2 < 0 ∨ (chK logs k).1.length < (preL (logs.getD k []) 0).length then (preL (logs.getD k []) 0, (k : Int)) else chK logs k := rfl
theorem chK_rng (logs : List (List ByteArray)) : ∀ k : Nat, -1 ≤ (chK logs k).2 ∧ (chK logs k).2 < (k : Int) + 1
  | 0 => ⟨Int.le_refl _, by show (-1 : Int) < 0 + 1; decide⟩
  | k + 1 => by
    have ih := chK_rng logs k
    rw [chK_succ]
    split
    · simp only
      omega
    · omega
theorem log_at {w : World} {A : Option Addr} {logs : List (List ByteArray)} (h : Kd.C (Kd.slice 9 Kd.string) w A logs.length logs) (k : Nat) (hk : k < logs.length) : ∃ ad A' c', A = some ad ∧ w.cell? (ad.add k) = some (.slice A' logs[k].length c') ∧ logs[k].length ≤ c' ∧ Kd.C Kd.string w A' logs[k].length logs[k] := by
  obtain ⟨ad, e, hc⟩ := h.2.2 (by omega)
  obtain ⟨cs, _, ⟨A', c', rfl, h1, h2⟩, hcell⟩ := hc k _ (List.getElem?_eq_getElem hk)
  have h3 := hcell 0 _ rfl
  simp only [Kd.slice, Nat.mul_one, Nat.add_zero] at h3
  exact ⟨ad, A', c', e, h3, h1, h2⟩
def missC (l : List ByteArray) (L : List RecP) (i : Nat) : Bool := decide (l[i]? ≠ (L[i]?).map fun r => (recW r).1)
def missK (l : List ByteArray) (L : List RecP) (k : Nat) : List Int := ((List.range k).filter (missC l L)).map Int.ofNat
def missL (l : List ByteArray) (L : List RecP) : List Int := missK l L L.length
theorem missK_succ (l : List ByteArray) (L : List RecP) (k : Nat) : missK l L (k + 1) = if missC l L k = true then missK l L k ++ [(k : Int)] else missK l L k := by
  unfold missK
  rw [List.range_succ, List.filter_append, List.map_append]
  by_cases h : missC l L k = true
  · rw [if_pos h, List.filter_cons_of_pos h]
    rfl
  · rw [if_neg h, List.filter_cons_of_neg h]
    simp
theorem missK_len (l : List ByteArray) (L : List RecP) (k : Nat) : (missK l L k).length ≤ k := by
  unfold missK
  rw [List.length_map]
  exact Nat.le_trans (List.length_filter_le _ _) (by rw [List.length_range]; exact Nat.le_refl _)
end Go.Proofs.Ytmfcbfgijimliaa
end
section
namespace Go.Proofs.Ytmfcbfgijimliaa
open Go.RowKit
theorem wpIn_range_told {F : Fence} {n : Nat} {P : Program} {α : Type} {g : Operand} {ps : Array Tmp} {assign body : Code} {Q : Exit → Act → World → Prop} {a : Act} {w : World} (hro : F.round = none) (h1 : 1 ≤ n) {gf : Nat} {lb : Array Value} (hg : a.eval g = .func (.func gf) #[] lb) (hFg : F.fn gf) (eg : ∀ args w, (callFunc gf args).run P w = .ok (.enter gf args) w)
    {encs : α → Array Value} (V : α → World → Prop) (S : List α → Prop) (N n₀ : Nat) (hn₀ : n₀ ≤ w.heap.size) (hps : ∀ x, (encs x).size = ps.size)
    (hseq : ∀ (l : Nat) (J : List α → World → Prop) (W : World), Below w.heap.size w W → (∀ s A B, J s A → A.grownBy B none → J s B) →
      (∀ pre x W1, J pre W1 → V x W1 → pre.length < N → YieldAt F (n - 1 - 1) P l (encs x) W1 fun e W' => e = .returned (.bool true) ∧ J (pre ++ [x]) W' ∧ Below n₀ W1 W') → J [] W →
      CallsIn F (n - 1) P gf (#[.func (.yield l) #[] #[]] ++ lb) W fun e W' => (∃ v, e = .returned v) ∧ ∃ xs, S xs ∧ J xs W')
    (I : List α → World → Prop) (hI : OwnFrom w.heap.size I) (h0 : I [] w) (Ax : List α → α → Act → World → Prop) (hAx : ∀ pre x a', OwnFrom w.heap.size (fun (_ : Unit) W => Ax pre x a' W))
    (hassign : ∀ (l : Nat) (pre : List α) (x : α) (W : World) (K : Act → World → Prop), I pre W → V x W → pre.length < N → (∀ a' W', KeepsFrom w.heap.size W W' → Below n₀ W W' → Ax pre x a' W' → K a' W') →
      assign.wpIn (F.inRound l) (n - 1 - 1) P (Exit.then K (fun _ _ _ => False)) { tmps := (ps.zip (encs x)).foldl (fun t (p, v) => t.setIfInBounds p v) a.tmps, defers := [] } W)
    (hbody : ∀ (l : Nat) (pre : List α) (x : α) (a' : Act) (W : World), Ax pre x a' W → body.wpIn (F.inRound l) (n - 1 - 1) P (fun e _ W' => e = .normal ∧ KeepsFrom w.heap.size W W' ∧ Below n₀ W W' ∧ I (pre ++ [x]) W') a' W)
    (hdone : ∀ (D : Nat) (xs : List α) (W : World), w.heap.size ≤ D → S xs → I xs W → W.heap[D]? = some (.deferred (some [])) → Q .normal { a with defers := { target := .collected D, args := #[] } :: a.defers } W) :
    (Code.rangeFunc g ps assign body).wpIn F n P Q a w := by
  refine wpIn_rangeFunc fun fn hfn => ?_
  rw [hro]
  obtain ⟨mk, hmk⟩ : ∃ mk : LoopState → Option Code → Loop, mk = fun st pe => { state := st, pending := pe, fn, tmps := a.tmps, params := ps, assign, body, defers := w.heap.size } := ⟨_, rfl⟩
  obtain ⟨W1, hW1⟩ : ∃ W1, (w.alloc (.deferred (some []))).alloc (.loop (mk .ready none)) = W1 := ⟨_, rfl⟩
  have hL1 : W1.heap[w.heap.size + 1]? = some (.loop (mk .ready none)) := by
    have := World.alloc_heap_new (w.alloc (.deferred (some []))) (.loop (mk .ready none))
    rwa [World.size_alloc, hW1] at this
  have hD1 : W1.heap[w.heap.size]? = some (.deferred (some [])) := by
    rw [← hW1]
    exact (Below.heap_alloc _ _ _ (by simp)).trans (World.alloc_heap_new w _)
  have hI1 : I [] W1 := by rw [← hW1]; exact hI.alloc _ (hI.alloc _ h0)
  have hB1 : Below w.heap.size w W1 := by rw [← hW1]; exact ((Below.refl _ w).alloc (Nat.le_refl _) _).alloc (by simp) _
  refine ⟨w.heap.size + 1, [{ target := .collected w.heap.size, args := #[] }], W1, { target := .fn (.func gf) lb, args := #[.func (.yield (w.heap.size + 1)) #[] #[]] }, W1, gf, #[.func (.yield (w.heap.size + 1)) #[] #[]] ++ lb, W1, ?_, ?_, ?_, ?_, fun _ => h1, ?_⟩
  · rw [← hW1, hmk]
    exact run_enterLoop_outer _ _ _ _ _
  · simp only [resolve, hg]
    simp [go_sem]
  · intro f' hf'
    simp [Target.leads] at hf'
    subst hf'
    exact hFg
  · simp [invoke, go_sem, eg]
  · refine (hseq (w.heap.size + 1) (fun pre W => I pre W ∧ W.heap[w.heap.size + 1]? = some (.loop (mk .ready none)) ∧ W.heap[w.heap.size]? = some (.deferred (some []))) W1 hB1 ?_ ?_ ⟨hI1, hL1, hD1⟩).mono ?_
    · rintro s A B ⟨hi, hl, hd⟩ hgr
      exact ⟨hI s A B none hi hgr (fun r e => by cases e), (hgr.block _ (Array.getElem?_eq_some_iff.1 hl).1 (by simp)).trans hl, (hgr.block _ (Array.getElem?_eq_some_iff.1 hd).1 (by simp)).trans hd⟩
    · rintro pre x W ⟨hi, hl, hd⟩ hv hN
      have hy := run_yield (P := P) (args := encs x) hl (by rw [hmk]; exact hps x)
      rw [hmk] at hy
      refine ⟨fn, _, assign, body, hy, roundIn_of_wpIn hfn (hassign _ pre x W _ hi hv hN ?_)⟩
      clear hy
      intro a' Wa hk hb hax
      have hla := hk.same _ _ (by omega) hl rfl
      have hda := hk.same _ _ (Nat.le_refl _) hd rfl
      have hlt : w.heap.size + 1 < Wa.heap.size := (Array.getElem?_eq_some_iff.1 hla).1
      refine ⟨_, run_beginRound hla (by rw [hmk]), ?_⟩
      have hl2 : (Wa.putObj (w.heap.size + 1) (.loop { mk .ready none with state := .busy })).heap[w.heap.size + 1]? = some (.loop { mk .ready none with state := .busy }) := World.putObj_heap_same hlt
      have hd2 : (Wa.putObj (w.heap.size + 1) (.loop { mk .ready none with state := .busy })).heap[w.heap.size]? = some (.deferred (some [])) := (World.putObj_heap_other (by omega)).trans hda
      have hb2 := belowK_b (w := w) hn₀ Wa (w.heap.size + 1) _ (.loop { mk .ready none with state := .busy }) (by omega) hla rfl rfl
      refine wpIn_mono (hbody _ pre x a' _ ((hAx pre x a').putObj (s := ()) _ hax (by omega) hla rfl)) ?_
      rintro e a3 W3 ⟨rfl, hk3, hb3, hi3⟩
      have hl3 := hk3.same _ _ (by omega) hl2 rfl
      have hd3 := hk3.same _ _ (Nat.le_refl _) hd2 rfl
      have hr := run_endRound (P := P) none hl3
      rw [hmk] at hr hl3
      refine ⟨_, _, hr, rfl, ⟨hI.putObj _ hi3 (by omega) hl3 rfl, ?_, (World.putObj_heap_other (by omega)).trans hd3⟩, ?_⟩
      · rw [hmk]
        exact World.putObj_heap_same (Array.getElem?_eq_some_iff.1 hl3).1
      · exact (hb.trans (hb2.trans hb3)).trans (belowK_b (w := w) hn₀ W3 (w.heap.size + 1) _ _ (by omega) hl3 rfl rfl)
    · rintro e W2 ⟨⟨v, rfl⟩, xs, hS, hi, hl, hd⟩
      have hr := run_endLoop (P := P) hl (by rw [hmk]; simp)
      rw [hmk] at hr
      exact ⟨none, _, hr, hdone _ xs _ (Nat.le_refl _) hS (hI.putObj _ hi (by omega) hl rfl) ((World.putObj_heap_other (by omega)).trans hd)⟩
end Go.Proofs.Ytmfcbfgijimliaa
end
section
namespace Go.Proofs.Ytmfcbfgijimliaa
open Go.RowKit Q Go.Proofs.YtmfcbfgijimliaaW.PrintWords Go.Proofs.YtmfcbfgijimliaaW.PrintLast Go.Proofs.YtmfcbfgijimliaaW.PrintMore
attribute [local go_sem] Oper.semAt_some
section
variable {F : Fence} {n : Nat} {P : Program} {ops : Array Oper} {rest : List Oper} {o : Oper} {a : Act} {Q : Exit → Act → World → Prop} {W : World}
theorem gateIn_ (op : Op) (_ho : o.op = op) (h : wpListIn F n P ops Q (o :: rest) a W) : wpListIn F n P ops Q (o :: rest) a W := h
theorem gateIn_guard (hw : Region.wanted o (yielded ops a.tmps) = true) (h : wpListIn F n P ops Q ({ o with guard := none } :: rest) a W) : wpListIn F n P ops Q (o :: rest) a W := by
  have h1 : Region.wanted { o with guard := none } (yielded ops a.tmps) = true := rfl
  unfold wpListIn at h ⊢
  rw [if_pos h1] at h
  rw [if_pos hw]
  exact h
theorem wpListIn_load_row (hgd : o.guard = none) (ty : TypeId) (x : Operand) (ho : o.op = .load ty x) (g : Nat) (hx : a.eval x = .pointer (some ⟨g, 0, none⟩)) (t : TypeId) (cs : Array Value) (d : TypeDesc) (hg : W.heap[g]? = some (.cells cs t (0, 0))) (hu : P.underlying ty = some d) (hd : (match d with | .struct _ | .array _ _ => true | _ => false) = true) (hi : (P.info? ty).map (·.size) = some cs.size) (h : wpListIn F n P ops Q rest (a.put o.dst (.agg cs)) W) : wpListIn F n P ops Q (o :: rest) a W := by
  refine wpListIn_plain hgd fun K hK => ?_
  unfold Oper.wpIn
  refine ⟨by simp [Oper.about, ho], ?_⟩
  rw [Oper.semAt_plain F _ _ (by rw [ho]; intro c hc; cases hc)]
  simp only [execOp, ho, hx, Instr.loadAt, Instr.sureAddr, Sem.run_bind, Sem.run_pure, Result.andThen_ok, run_loadVar_row W g t ty cs (0, 0) d hg hu hd hi]
  exact hK _ _ h
theorem wpListIn_store_row (hgd : o.guard = none) (ty : TypeId) (x y : Operand) (ho : o.op = .store ty x y) (g : Nat) (cells : Array Value) (hx : a.eval x = .pointer (some ⟨g, 0, none⟩)) (hy : a.eval y = .agg cells) (t : TypeId) (old : Array Value) (hg : W.heap[g]? = some (.cells old t (0, 0))) (hi : (P.info? ty).map (·.size) = some cells.size) (hold : old.size = cells.size) (h1 : cells.all (·.oneCell') = true) (h : wpListIn F n P ops Q rest (a.put o.dst undef) (W.setRow g cells)) : wpListIn F n P ops Q (o :: rest) a W := by
  refine wpListIn_plain hgd fun K hK => ?_
  unfold Oper.wpIn
  refine ⟨by simp [Oper.about, ho], ?_⟩
  rw [Oper.semAt_plain F _ _ (by rw [ho]; intro c hc; cases hc)]
  simp only [execOp, ho, hx, hy, Instr.storeAt, Instr.sureAddr, Sem.run_bind, Sem.run_pure, Result.andThen_ok, run_storeVar_row W g t ty old cells hg hi hold h1]
  exact hK _ _ h
end
theorem skip_none {F : Fence} {p : Prop} (h : p) : (∀ f : FuncId, (none : Option FuncId) = some f → F.fn f) ∧ p := ⟨(fun _ hf => by cases hf), h⟩
theorem grown_of {w w' : World} (b : Below w.heap.size w w') : w.grownBy w' none := ⟨b.os, b.tape, b.output, b.size, fun k hk _ => b.block k hk⟩
abbrev Hd := RecP × Option Addr × Nat
def HV (n₀ : Nat) (x : Hd) (W : World) : Prop := Kd.R k83 83 W n₀ (fun k => n₀ ≤ k) (.slice x.2.1 x.1.locs.length x.2.2) x.1.locs
set_option maxRecDepth 100000 in
set_option maxHeartbeats 1000000 in
theorem iter_in (n : Nat) (hn : 1 ≤ n) (l Bn : Nat) (A : Option Addr) (c : Nat) (xs : List ByteArray) (hz : ∀ s ∈ xs, s.size ≤ 140737488355328) (w0 : World) (hC : Kd.C Kd.string w0 A xs.length xs) (hc : xs.length ≤ c) (J : List Hd → World → Prop) (hJ : ∀ s A B, J s A → A.grownBy B none → J s B)
    (hY : ∀ pre x W1, J pre W1 → HV w0.heap.size x W1 → pre.length < xs.length → YieldAt Fence.wide (n - 1) Try.prog l #[.agg (rv x.1 x.2.1 x.2.2)] W1 fun e W' => e = .returned (.bool true) ∧ J (pre ++ [x]) W' ∧ Below w0.heap.size W1 W')
    (W : World) (hb0 : Below w0.heap.size w0 W) (hBn : W.cell? ⟨Bn, 0, none⟩ = some (.slice A xs.length c)) (h0 : J [] W) :
    CallsIn Fence.wide n Try.prog 37 #[.func (.yield l) #[] #[], .pointer (some ⟨Bn, 0, none⟩)] W fun e W' => (∃ v, e = .returned v) ∧ ∃ ys : List Hd, ys.map (·.1) = preL xs 0 ∧ J ys W' := by
  have HJ := Aside0.mk h0
  have HB := Aside0.mk hb0
  have HY := Aside0.mk hY
  have HG := Aside0.mk hJ
  have HC := Aside0.mk hC
  have HZ := Aside0.mk hz
  clear h0 hb0 hY hJ hC hz
  refine callsIn_of_wp Try.func37 rfl trivial ?_ rfl
  simp only [Try.ntmps37, List.size_toArray, List.length_cons, List.length_nil, Nat.reduceAdd, Nat.reduceSub, Array.replicate_succ, Array.replicate_zero, List.push_toArray, List.append_toArray, List.nil_append, List.cons_append]
  gi_wp2
  clear hBn
  gi_loopw [9] (fun i wr => ∃ (k : Nat) (pre : List Hd), k ≤ xs.length ∧ i = .int .i64 k ∧ Aside0 (pre.map (·.1) ++ preL (xs.drop k) k = preL xs 0) ∧ Aside0 (J pre wr) ∧ Aside0 (Below w0.heap.size w0 wr)) (fun i _ => xs.length - (intOf i).toNat)
  case atStart => exact ⟨0, [], Nat.zero_le _, rfl, ⟨rfl⟩, HJ, HB⟩
  case round =>
    clear HJ HB
    obtain ⟨k, pre, hk, rfl, HP, HJ, HB⟩ := hrel
    by_cases hlt : k < xs.length
    · obtain ⟨s, hs⟩ : ∃ s, xs[k] = s := ⟨_, rfl⟩
      obtain ⟨m, hm⟩ : ∃ m : List UInt8, s = B m := ⟨s.data.toList, rfl⟩
      have hml : m.length ≤ 140737488355328 := by
        have h1 := HZ.out s (by rw [← hs]; exact List.getElem_mem hlt)
        rwa [hm, B_size] at h1
      obtain ⟨ad, hA, hcell⟩ := str_at HC.out k hlt
      replace hcell := (HB.out.cell (World.block_lt_of_cell? _ _ hcell)).trans hcell
      obtain ⟨⟨r, e⟩, hr⟩ : ∃ p, recR m = p := ⟨_, rfl⟩
      have HR := recread_own m hml wr
      rw [hr] at HR
      replace HR := Aside0.mk HR
      have HP2 := HP.out
      rw [drop_at hlt, hs, hm, preL_cons] at HP2
      rw [show (B m).data.toList = m from rfl, hr] at HP2
      replace HP := Aside0.mk HP2
      clear HP2 hml hr
      rw [hs, hm] at hcell
      clear hs hm s
      subst hA
      have hHC := Lib.hid hc
      have hHL := Lib.hid hlt
      clear hc
      have hF : Fence.wide.fn 38 := trivial
      by_cases he : e = 0
      · subst he
        by_cases hq : r.seq = (k : Int)
        · have hq2 : (r.seq != (k : Int)) = false := by rw [hq]; simp
          have h1 := HP.out
          rw [if_pos ⟨rfl, hq⟩] at h1
          have hpl : Hid (pre.length < xs.length) := Lib.hid (by
            have h2 := congrArg List.length h1
            have h3 := preL_len xs 0
            simp only [List.length_append, List.length_map, List.length_cons] at h2
            omega)
          replace HP := Aside0.mk h1
          clear h1 hq
          gi_wp2_with (first | (gi_at_call 38; refine (callsIn_wide.2 HR.out).mono ?_; rintro e0 w1 ⟨A1, c1, rfl, hO, b1⟩; clear HR; have hwr := HB.out.size; have HO := Aside0.mk (show HV w0.heap.size (r, A1, c1) w1 from Kd.R_mono (Kd.R_lower hO hwr) (fun k hk => Nat.le_trans hwr hk)); replace HJ := Aside0.mk (HG.out _ _ _ HJ.out (grown_of b1)); replace HB := Aside0.mk (below2 HB.out HB.out.size b1); clear hcell hO b1 hwr) | (refine gateIn_ (.store 55 (.tmp 5) (.tmp 17)) rfl ?_; refine wpListIn_store_row rfl 55 (.tmp 5) (.tmp 17) rfl w1.heap.size (rv r A1 c1) rfl rfl 55 _ (Blk.new _ _ _) (by kernel_rfl) rfl (rv_one _ _ _) ?_; simp only [Act.put, List.setIfInBounds_toArray, List.set_cons_zero, List.set_cons_succ]; have hp := put_new w1 #[.int .i64 0, .int .i64 0, .int .i64 0, .int .i64 0, .int .i64 0, .slice none 0 0, .string ⟨#[]⟩, .int .i64 0, .int .i64 0, .int .i64 0, .string ⟨#[]⟩, .string ⟨#[]⟩, .int .i64 0, .int .i64 0] (rv r A1 c1) 55; generalize (w1.alloc (.cells #[.int .i64 0, .int .i64 0, .int .i64 0, .int .i64 0, .int .i64 0, .slice none 0 0, .string ⟨#[]⟩, .int .i64 0, .int .i64 0, .int .i64 0, .string ⟨#[]⟩, .string ⟨#[]⟩, .int .i64 0, .int .i64 0] 55)).setRow w1.heap.size (rv r A1 c1) = w2 at hp ⊢; replace HJ := Aside0.mk (HG.out _ _ _ HJ.out (grown_of hp.2)); replace HB := Aside0.mk (below2 HB.out HB.out.size hp.2); replace HO := Aside0.mk (show HV w0.heap.size (r, A1, c1) w2 from Kd.R_below HO.out hp.2); have HR2 := Aside0.mk hp.1; have hs0 : w2.cell? ⟨w1.heap.size, 0, none⟩ = some (.int .i64 r.seq) := hp.1.cell (i := 0) rfl; clear hp; obtain ⟨fn, tmps, assign, body, hy, hRd⟩ := HY.out pre (r, A1, c1) w2 HJ.out HO.out hpl.out) | (refine gateIn_ (.load 55 (.tmp 5)) rfl ?_; refine gateIn_guard (by rfl) ?_; refine wpListIn_load_row rfl 55 (.tmp 5) rfl w1.heap.size rfl 55 (rv r A1 c1) _ HR2.out Try.underlying55 rfl (by kernel_rfl) ?_; simp only [Act.put, List.setIfInBounds_toArray, List.set_cons_zero, List.set_cons_succ]))
          refine hRd.mono ?_
          rintro e3 W3 ⟨rfl, hJ3, hk3⟩
          have hl1 := hHL.out
          have hmx : xs.length ≤ 9223372036854775807 := Kd.C_max HC.out
          gi_wp2
          go_roundw
          case rel => exact ⟨k + 1, pre ++ [(r, A1, c1)], hHL.out, by go_num, ⟨by rw [← HP.out]; simp⟩, ⟨hJ3⟩, ⟨HB.out.trans hk3⟩⟩
          case measure =>
            have := hHL.out
            simp [intOf]
            omega
        · have hq2 : (r.seq != (k : Int)) = true := bne_iff_ne.mpr hq
          have h1 := HP.out
          rw [if_neg (fun h2 => hq h2.2), List.append_nil] at h1
          replace HP := Aside0.mk h1
          clear h1
          gi_wp2_with (first | (gi_at_call 38; refine (callsIn_wide.2 HR.out).mono ?_; rintro e0 w1 ⟨A1, c1, rfl, hO, b1⟩; clear HR; have hwr := HB.out.size; have HO := Aside0.mk (show HV w0.heap.size (r, A1, c1) w1 from Kd.R_mono (Kd.R_lower hO hwr) (fun k hk => Nat.le_trans hwr hk)); replace HJ := Aside0.mk (HG.out _ _ _ HJ.out (grown_of b1)); replace HB := Aside0.mk (below2 HB.out HB.out.size b1); clear hcell hO b1 hwr) | (refine gateIn_ (.store 55 (.tmp 5) (.tmp 17)) rfl ?_; refine wpListIn_store_row rfl 55 (.tmp 5) (.tmp 17) rfl w1.heap.size (rv r A1 c1) rfl rfl 55 _ (Blk.new _ _ _) (by kernel_rfl) rfl (rv_one _ _ _) ?_; simp only [Act.put, List.setIfInBounds_toArray, List.set_cons_zero, List.set_cons_succ]; have hp := put_new w1 #[.int .i64 0, .int .i64 0, .int .i64 0, .int .i64 0, .int .i64 0, .slice none 0 0, .string ⟨#[]⟩, .int .i64 0, .int .i64 0, .int .i64 0, .string ⟨#[]⟩, .string ⟨#[]⟩, .int .i64 0, .int .i64 0] (rv r A1 c1) 55; generalize (w1.alloc (.cells #[.int .i64 0, .int .i64 0, .int .i64 0, .int .i64 0, .int .i64 0, .slice none 0 0, .string ⟨#[]⟩, .int .i64 0, .int .i64 0, .int .i64 0, .string ⟨#[]⟩, .string ⟨#[]⟩, .int .i64 0, .int .i64 0] 55)).setRow w1.heap.size (rv r A1 c1) = w2 at hp ⊢; replace HJ := Aside0.mk (HG.out _ _ _ HJ.out (grown_of hp.2)); replace HB := Aside0.mk (below2 HB.out HB.out.size hp.2); replace HO := Aside0.mk (show HV w0.heap.size (r, A1, c1) w2 from Kd.R_below HO.out hp.2); have HR2 := Aside0.mk hp.1; have hs0 : w2.cell? ⟨w1.heap.size, 0, none⟩ = some (.int .i64 r.seq) := hp.1.cell (i := 0) rfl; clear hp) | (with_reducible refine skip_none ?_))
          refine bodyPost_ret (results_none rfl _ _ _) rfl ?_
          have h := HP.out
          exact ⟨⟨_, rfl⟩, pre, h, HJ.out⟩
      · have he2 : (e != 0) = true := bne_iff_ne.mpr he
        have h1 := HP.out
        rw [if_neg (fun h2 => he h2.1), List.append_nil] at h1
        replace HP := Aside0.mk h1
        clear h1
        gi_wp2_with (first | (gi_at_call 38; refine (callsIn_wide.2 HR.out).mono ?_; rintro e0 w1 ⟨A1, c1, rfl, hO, b1⟩; clear HR; have hwr := HB.out.size; have HO := Aside0.mk (show HV w0.heap.size (r, A1, c1) w1 from Kd.R_mono (Kd.R_lower hO hwr) (fun k hk => Nat.le_trans hwr hk)); replace HJ := Aside0.mk (HG.out _ _ _ HJ.out (grown_of b1)); replace HB := Aside0.mk (below2 HB.out HB.out.size b1); clear hcell hO b1 hwr) | (refine gateIn_ (.store 55 (.tmp 5) (.tmp 17)) rfl ?_; refine wpListIn_store_row rfl 55 (.tmp 5) (.tmp 17) rfl w1.heap.size (rv r A1 c1) rfl rfl 55 _ (Blk.new _ _ _) (by kernel_rfl) rfl (rv_one _ _ _) ?_; simp only [Act.put, List.setIfInBounds_toArray, List.set_cons_zero, List.set_cons_succ]; have hp := put_new w1 #[.int .i64 0, .int .i64 0, .int .i64 0, .int .i64 0, .int .i64 0, .slice none 0 0, .string ⟨#[]⟩, .int .i64 0, .int .i64 0, .int .i64 0, .string ⟨#[]⟩, .string ⟨#[]⟩, .int .i64 0, .int .i64 0] (rv r A1 c1) 55; generalize (w1.alloc (.cells #[.int .i64 0, .int .i64 0, .int .i64 0, .int .i64 0, .int .i64 0, .slice none 0 0, .string ⟨#[]⟩, .int .i64 0, .int .i64 0, .int .i64 0, .string ⟨#[]⟩, .string ⟨#[]⟩, .int .i64 0, .int .i64 0] 55)).setRow w1.heap.size (rv r A1 c1) = w2 at hp ⊢; replace HJ := Aside0.mk (HG.out _ _ _ HJ.out (grown_of hp.2)); replace HB := Aside0.mk (below2 HB.out HB.out.size hp.2); replace HO := Aside0.mk (show HV w0.heap.size (r, A1, c1) w2 from Kd.R_below HO.out hp.2); have HR2 := Aside0.mk hp.1; have hs0 : w2.cell? ⟨w1.heap.size, 0, none⟩ = some (.int .i64 r.seq) := hp.1.cell (i := 0) rfl; clear hp) | (with_reducible refine skip_none ?_))
        refine bodyPost_ret (results_none rfl _ _ _) rfl ?_
        have h := HP.out
        exact ⟨⟨_, rfl⟩, pre, h, HJ.out⟩
    · obtain rfl : k = xs.length := by omega
      gi_wp2
      go_end0
      have h := HP.out
      rw [List.drop_length] at h
      exact ⟨⟨_, rfl⟩, pre, by rw [← h]; simp [preL], HJ.out⟩
end Go.Proofs.Ytmfcbfgijimliaa
end
section
namespace Go.Proofs.Ytmfcbfgijimliaa
open Go.RowKit Q Go.Proofs.YtmfcbfgijimliaaW.PrintWords Go.Proofs.YtmfcbfgijimliaaW.PrintLast Go.Proofs.YtmfcbfgijimliaaW.PrintMore
attribute [local go_sem] Oper.semAt_some
def Acc (n₀ : Nat) (B : Nat) (L : List RecP) (W : World) : Prop := ∃ v, Boxed W B 34 v ∧ Kd.R kRv 55 W n₀ (fun k => n₀ ≤ k) v L
theorem R_calm {α : Type} {d : Kd α} {e base : Nat} {ok : Nat → Prop} {X Y : World} {v : Value} {xs : List α} {row : Option Nat} (h : d.R e X base ok v xs) (hg : X.grownBy Y row) (hr : ∀ r, row = some r → ∃ o : Obj, X.heap[r]? = some o ∧ o.isCells = false) : d.R e Y base ok v xs :=
  Kd.R_mono (Kd.R_move (Kd.R_bound h) (fun k hk => hg.block k hk.2.2.1 (fun e' => by
    obtain ⟨_, _, _, q, _, cells, hc⟩ := hk
    obtain ⟨o, ho, hn⟩ := hr k e'.symm
    rw [hc] at ho
    cases ho
    cases hn))) (fun _ hk => hk.1)
theorem blk_calm {X Y : World} {g : Nat} {c : Array Value} {T : TypeId} {row : Option Nat} (h : Blk X g c T) (hg : X.grownBy Y row) (hr : ∀ r, row = some r → ∃ o : Obj, X.heap[r]? = some o ∧ o.isCells = false) : Blk Y g c T :=
  (hg.block g (Array.getElem?_eq_some_iff.1 (show X.heap[g]? = _ from h)).1 (fun e' => by
    obtain ⟨o, ho, hn⟩ := hr g e'.symm
    rw [show X.heap[g]? = _ from h] at ho
    cases ho
    cases hn)).trans h
theorem Acc.calm {n₀ B : Nat} {L : List RecP} {X Y : World} {row : Option Nat} (h : Acc n₀ B L X) (hg : X.grownBy Y row) (hr : ∀ r, row = some r → ∃ o : Obj, X.heap[r]? = some o ∧ o.isCells = false) : Acc n₀ B L Y := by
  obtain ⟨v, h1, h2⟩ := h
  exact ⟨v, blk_calm h1 hg hr, R_calm h2 hg hr⟩
theorem records_in (n : Nat) (A : Option Addr) (m c : Nat) (w : World) : CallsIn Fence.wide n Try.prog 25 #[.slice A m c] w fun e w' => e = .returned (.func (.func 37) #[] #[.pointer (some ⟨w.heap.size, 0, none⟩)]) ∧ w' = w.alloc (.cells #[.slice A m c] 22) := by
  refine callsIn_of_wp Try.func25 rfl trivial ?_ rfl
  simp only [Try.ntmps25, List.size_toArray, List.length_cons, List.length_nil, Nat.reduceAdd, Nat.reduceSub, Array.replicate_succ, Array.replicate_zero, List.push_toArray, List.append_toArray, List.nil_append, List.cons_append]
  gi_wp2
  go_ret
  exact ⟨rfl, rfl⟩
set_option maxRecDepth 100000 in
set_option maxHeartbeats 2000000 in
theorem prefix_calls (A : Option Addr) (c : Nat) (xs : List ByteArray) (hz : ∀ s ∈ xs, s.size ≤ 140737488355328) (hl : xs.length ≤ 1048576) (w : World) (hC : Kd.C Kd.string w A xs.length xs) (hc : xs.length ≤ c) :
    Calls Try.prog 12 #[.slice A xs.length c] w fun e w' => ∃ (A' : Option Addr) (c' : Nat), e = .returned (.slice A' (preL xs 0).length c') ∧ LR w' A' c' (preL xs 0) ∧ Below w.heap.size w w' := by
  refine (callsIn_wide (n := 5)).1 ?_
  have HC := Aside0.mk hC
  have HZ := Aside0.mk hz
  have HL := Lib.hid hc
  clear hC hz hc
  refine callsIn_of_wp_marks Try.func12 rfl trivial ?_ rfl
  simp only [Try.ntmps12, List.size_toArray, List.length_cons, List.length_nil, Nat.reduceAdd, Nat.reduceSub, Array.replicate_succ, Array.replicate_zero, List.push_toArray, List.append_toArray, List.nil_append, List.cons_append]
  have hF : Fence.wide.fn 25 := trivial
  gi_wp2_with (gi_at_call 25; refine (records_in _ _ _ _ _).mono ?_; rintro e w' ⟨rfl, rfl⟩)
  have bO := Boxed.new w 34 (.slice none 0 0)
  have bN := Boxed.new (w.alloc (.cells #[.slice none 0 0] 34)) 22 (.slice A xs.length c)
  rw [World.size_alloc] at bN
  have hB0 : Below w.heap.size w ((w.alloc (.cells #[.slice none 0 0] 34)).alloc (.cells #[.slice A xs.length c] 22)) := below_alloc (below_alloc (Below.refl _ w) _) _
  have hbO := bO.alloc (.cells #[.slice A xs.length c] 22)
  have hsz : ((w.alloc (.cells #[.slice none 0 0] 34)).alloc (.cells #[.slice A xs.length c] 22)).heap.size = w.heap.size + 2 := by simp
  generalize (w.alloc (.cells #[.slice none 0 0] 34)).alloc (.cells #[.slice A xs.length c] 22) = W0 at bN hB0 hbO hsz ⊢
  clear bO
  refine wpIn_range_told rfl (by decide) (gf := 37) (lb := #[.pointer (some ⟨w.heap.size + 1, 0, none⟩)]) rfl trivial (enters_of Try.func37 (by kernel_rfl) rfl) (encs := fun x : Hd => #[.agg (rv x.1 x.2.1 x.2.2)]) (HV w.heap.size) (fun ys => ys.map (·.1) = preL xs 0) xs.length w.heap.size (by omega) (fun _ => rfl) ?seq (fun pre W => Acc w.heap.size w.heap.size (pre.map (·.1)) W ∧ Below w.heap.size w W) ?own ⟨⟨_, hbO, Kd.R_nil _ _ _ _ _⟩, hB0⟩ (fun pre x a' W => ∃ Bx, w.heap.size < Bx ∧ pre.length < xs.length ∧ a' = { tmps := #[.slice A xs.length c, undef, .slice none 0 0, .pointer (some ⟨w.heap.size, 0, none⟩), .pointer (some ⟨Bx, 0, none⟩), .slice A xs.length c, .func (.func 37) #[] #[.pointer (some ⟨w.heap.size + 1, 0, none⟩)], .agg (rv x.1 x.2.1 x.2.2), undef, undef, undef, undef, undef], defers := [] } ∧ Blk W Bx (rv x.1 x.2.1 x.2.2) 55 ∧ HV w.heap.size x W ∧ Acc w.heap.size w.heap.size (pre.map (·.1)) W ∧ Below w.heap.size w W) ?ax ?assign ?body ?done
  case seq =>
    intro l J W hW hJ hY h0
    exact iter_in _ (by decide) l (w.heap.size + 1) A c xs HZ.out w HC.out HL.out J hJ hY W (below2 hB0 hB0.size hW) ((hW.cell (p := ⟨w.heap.size + 1, 0, none⟩) (by show w.heap.size + 1 < W0.heap.size; omega)).trans bN.cell) h0
  case own =>
    intro pre X Y row hs hg hr
    exact ⟨hs.1.calm hg (fun r e => (hr r e).2), hs.2.grown hg (by have := hs.2.size; omega) (fun k e => by have := (hr k e).1; omega)⟩
  case ax =>
    rintro pre x a' _ X Y row ⟨Bx, h1, h2, h3, h4, h5, h6, h7⟩ hg hr
    exact ⟨Bx, h1, h2, h3, blk_calm h4 hg (fun r e => (hr r e).2), R_calm h5 hg (fun r e => (hr r e).2), h6.calm hg (fun r e => (hr r e).2), h7.grown hg (by have := h7.size; omega) (fun k e => by have := (hr k e).1; omega)⟩
  case assign =>
    rintro l pre x W K ⟨hA, hB⟩ hv hN hK
    gi_wp2_with (refine gateIn_ (.store 55 (.tmp 4) (.tmp 7)) rfl ?_; refine wpListIn_store_row rfl 55 (.tmp 4) (.tmp 7) rfl W.heap.size (rv x.1 x.2.1 x.2.2) rfl rfl 55 _ (Blk.new _ _ _) (by kernel_rfl) rfl (rv_one _ _ _) ?_; simp only [Act.put, List.setIfInBounds_toArray, List.set_cons_zero, List.set_cons_succ])
    have hp := put_new W #[.int .i64 0, .int .i64 0, .int .i64 0, .int .i64 0, .int .i64 0, .slice none 0 0, .string ⟨#[]⟩, .int .i64 0, .int .i64 0, .int .i64 0, .string ⟨#[]⟩, .string ⟨#[]⟩, .int .i64 0, .int .i64 0] (rv x.1 x.2.1 x.2.2) 55
    have hs := hB.size
    obtain ⟨v, h6, h8⟩ := hA
    exact hK _ _ ⟨hp.2.size, fun k o _ hk _ => (hp.2.block k (Array.getElem?_eq_some_iff.1 hk).1).trans hk⟩ (hp.2.mono hs) ⟨W.heap.size, h6.lt, hN, rfl, hp.1, Kd.R_below hv hp.2, ⟨v, (hp.2.block _ h6.lt).trans h6, Kd.R_below h8 hp.2⟩, below2 hB hs hp.2⟩
  case body =>
    rintro l pre x a' W ⟨Bx, h1, h2, rfl, h4, h5, ⟨v, h6, h8⟩, h7⟩
    have hc := h6.cell
    obtain ⟨r, A1, c1⟩ := x
    gi_wp2_with (first | (refine gateIn_ (.load 55 (.tmp 4)) rfl ?_; refine wpListIn_load_row rfl 55 (.tmp 4) rfl Bx rfl 55 (rv r A1 c1) _ h4 Try.underlying55 rfl (by kernel_rfl) ?_; simp only [Act.put, List.setIfInBounds_toArray, List.set_cons_zero, List.set_cons_succ]) | (refine gateIn_ (.buildSlice 34 1 #[(0, .tmp 9)]) rfl ?_; refine wpListIn_build1 rfl 34 55 9 rfl r A1 c1 152 rfl Try.underlying34 info55 ?_; simp only [Act.put, List.setIfInBounds_toArray, List.set_cons_zero, List.set_cons_succ]) | (gi_at_builtin; refine wpListIn_appendR rfl (.tmp 8) (.tmp 10) 34 55 rfl w.heap.size 152 Try.underlying34 info55 (by decide) v (pre.map (·.1)) rfl rfl r A1 c1 h8 h5 (by decide) h7.size (by simp only [List.length_map]; omega) ?_; intro v1 w1 hR hb hg; obtain ⟨A2, c2, rfl⟩ := Kd.R_slice hR; have hkr := (show Boxed W w.heap.size 34 v from h6).kept hg (Ne.symm (fun e' => by obtain ⟨cells, hcc⟩ := Kd.R_typed h8 _ e'; rw [show W.heap[w.heap.size]? = _ from h6] at hcc; simp at hcc)); have hc1 := hkr.cell; have hf1 := hkr.frozen))
    have hR2 : Kd.R kRv 55 w1 w.heap.size (fun k => w.heap.size ≤ k) (.slice A2 (pre.length + 1) c2) (pre.map (·.1) ++ [r]) := by
      have h := hR
      simp only [List.length_append, List.length_map, List.length_cons, List.length_nil] at h
      exact h
    refine ⟨?_, hb.setCell (p := ⟨w.heap.size, 0, none⟩) (Nat.le_refl _) _, ⟨_, hkr.set _, Kd.R_set hR2 (show w1.heap[w.heap.size]? = _ from hkr) (by decide) 0 _⟩, h7.trans (hb.setCell (p := ⟨w.heap.size, 0, none⟩) (Nat.le_refl _) _)⟩
    refine KeepsFrom.trans ⟨hg.size, fun k o _ hk ho => (hg.block k (Array.getElem?_eq_some_iff.1 hk).1 (fun e' => ?_)).trans hk⟩ ((KeepsOthers.setCell _ _ _).from _)
    obtain ⟨cells, hcc⟩ := Kd.R_typed h8 _ e'.symm
    rw [hk] at hcc
    cases hcc
    cases ho
  case done =>
    rintro D ys W hD hS ⟨⟨v, h6, h8⟩, h7⟩ hK
    have hc := h6.cell
    rw [hS] at h8
    obtain ⟨A', c', rfl⟩ := Kd.R_slice h8
    gi_wp2
    refine ⟨by simp, .inl ⟨_, _, rfl, run_takeDeferred hK, ?_⟩⟩
    have h9 := Kd.R_reads' (R_calm h8 (grownBy_putObj' W D (.deferred none)) (fun r e' => by cases e'; exact ⟨_, hK, rfl⟩))
    exact ⟨_, results_tmp rfl _ _ _, A', c', rfl, ⟨h9.2.2, h9.2.1⟩, h7.trans (belowK_b (w := w) (Nat.le_refl _) W D _ _ (by omega) hK rfl rfl)⟩
end Go.Proofs.Ytmfcbfgijimliaa
end
section
namespace Go.Proofs.Ytmfcbfgijimliaa
end Go.Proofs.Ytmfcbfgijimliaa
end
section
namespace Go.Proofs.Ytmfcbfgijimliaa
open Go.RowKit Q Go.Proofs.YtmfcbfgijimliaaW.PrintWords Go.Proofs.YtmfcbfgijimliaaW.PrintLast Go.Proofs.YtmfcbfgijimliaaW.PrintMore
set_option maxRecDepth 100000 in
set_option maxHeartbeats 2000000 in
theorem choose_calls (A : Option Addr) (c : Nat) (logs : List (List ByteArray)) (hz : ∀ xs ∈ logs, xs.length ≤ 1048576 ∧ ∀ s ∈ xs, s.size ≤ 140737488355328) (hl : logs.length ≤ 1000) (w : World) (hC : Kd.C (Kd.slice 9 Kd.string) w A logs.length logs) (hc : logs.length ≤ c) :
    Calls Try.prog 22 #[.slice A logs.length c] w fun e w' => ∃ (A' : Option Addr) (c' : Nat), e = .returned (.tuple #[.slice A' (chK logs logs.length).1.length c', .int .i64 (chK logs logs.length).2]) ∧ LR w' A' c' (chK logs logs.length).1 ∧ Below w.heap.size w w' := by
  have HC := Aside0.mk hC
  have HZ := Aside0.mk hz
  have HL := Lib.hid hc
  clear hC hz hc
  go_enter Try.func22, Try.ntmps22
  go_wp2_with fail
  go_loopw [4, 5, 11] (fun v q i wr => ∃ (k n : Nat) (A1 : Option Addr) (c1 : Nat) (at1 : Int), k ≤ logs.length ∧ i = .int .i64 k ∧ v = .slice A1 n c1 ∧ q = .int .i64 at1 ∧ Aside0 ((chK logs k).1.length = n ∧ (chK logs k).2 = at1) ∧ Aside0 (LR wr A1 c1 (chK logs k).1) ∧ Aside0 (Below w.heap.size w wr)) (fun _ _ i _ => logs.length - (intOf i).toNat)
  case atStart => exact ⟨0, 0, none, 0, -1, Nat.zero_le _, rfl, rfl, rfl, ⟨rfl, rfl⟩, ⟨LR.nil _ _⟩, ⟨Below.refl _ _⟩⟩
  case round =>
    obtain ⟨k, n, A1, c1, at1, hk, rfl, rfl, rfl, HP, HO, HB⟩ := hrel
    by_cases hlt : k < logs.length
    · obtain ⟨ad, A2, c2, hA, hcell, hxc, hxs⟩ := log_at HC.out k hlt
      have h1 := HZ.out logs[k] (List.getElem_mem hlt)
      have hg : logs.getD k [] = logs[k] := by rw [List.getD_eq_getElem?_getD, List.getElem?_eq_getElem hlt]; rfl
      have hs := chK_succ logs k
      rw [hg] at hs
      generalize logs[k] = xs at hcell hxc hxs h1 hs
      replace hcell := (HB.out.cell (World.block_lt_of_cell? _ _ hcell)).trans hcell
      have HX := Aside0.mk (Kd.C_below hxs HB.out)
      have HPR := Aside0.mk (prefix_calls A2 c2 xs h1.2 h1.1 wr HX.out hxc)
      have HS := Aside0.mk hs
      clear hs hg h1 hxs hxc HX
      subst hA
      have hHL := Lib.hid hlt
      obtain ⟨hp1, hp2⟩ := HP.out
      generalize chK logs k = p at HS HO hp1 hp2
      have hl2 := preL_len xs 0
      generalize preL xs 0 = l at HS HPR hl2
      obtain ⟨b, z⟩ := p
      subst hp1
      subst hp2
      clear HP
      go_wp2_with fail
      refine HPR.out.mono ?_
      rintro e w2 ⟨A3, c3, rfl, hLR, b2⟩
      have HV := Aside0.mk hLR
      replace HO := Aside0.mk (HO.out.below b2)
      replace HB := Aside0.mk (below2 HB.out HB.out.size b2)
      clear HPR hLR b2 hl2
      have hl1 := hHL.out
      by_cases hz : z < 0
      · have hz2 : decide (z < 0) = true := decide_eq_true hz
        have h2 := HS.out
        rw [if_pos (.inl hz)] at h2
        replace HS := Aside0.mk h2
        clear h2
        go_wp2_with fail
        exact ⟨⟨k + 1, l.length, A3, c3, (k : Int), hl1, by go_num, rfl, rfl, ⟨by rw [HS.out], by rw [HS.out]⟩, ⟨by rw [HS.out]; exact HV.out⟩, HB⟩, meas_lt hl1⟩
      · have hz2 : decide (z < 0) = false := decide_eq_false hz
        by_cases hbl : b.length < l.length
        · have hb2 : decide (b.length < l.length) = true := decide_eq_true hbl
          have h2 := HS.out
          rw [if_pos (.inr hbl)] at h2
          replace HS := Aside0.mk h2
          clear h2
          go_wp2_with fail
          exact ⟨⟨k + 1, l.length, A3, c3, (k : Int), hl1, by go_num, rfl, rfl, ⟨by rw [HS.out], by rw [HS.out]⟩, ⟨by rw [HS.out]; exact HV.out⟩, HB⟩, meas_lt hl1⟩
        · have hb2 : decide (b.length < l.length) = false := decide_eq_false hbl
          have h2 := HS.out
          rw [if_neg (by rintro (h | h); exact hz h; exact hbl h)] at h2
          replace HS := Aside0.mk h2
          clear h2
          go_wp2_with fail
          exact ⟨⟨k + 1, b.length, A1, c1, z, hl1, by go_num, rfl, rfl, ⟨by rw [HS.out], by rw [HS.out]⟩, ⟨by rw [HS.out]; exact HO.out⟩, HB⟩, meas_lt hl1⟩
    · obtain rfl : k = logs.length := by omega
      obtain ⟨hp1, hp2⟩ := HP.out
      go_wp2_with fail
      refine bodyPost_ret (results_tmp2 rfl _ _ _) rfl ?_
      rw [hp1, hp2]
      exact ⟨A1, c1, rfl, HO.out, HB.out⟩
end Go.Proofs.Ytmfcbfgijimliaa
end
section
namespace Go.Proofs.Ytmfcbfgijimliaa
open Go.RowKit Q Go.Proofs.YtmfcbfgijimliaaW.PrintWords Go.Proofs.YtmfcbfgijimliaaW.PrintLast Go.Proofs.YtmfcbfgijimliaaW.PrintMore
set_option maxRecDepth 100000 in
set_option maxHeartbeats 2000000 in
theorem equal_calls (A D : Option Addr) (c d : Nat) (a b : List RecP) (hl : ∀ r ∈ a, r.locs.length ≤ 1000) (w : World) (ha : LR w A c a) (hb : LR w D d b) :
    Calls Try.prog 28 #[.slice A a.length c, .slice D b.length d, .func (.func 29) #[] #[]] w fun e w' => e = .returned (.bool (decide (a = b))) ∧ Below w.heap.size w w' := by
  have HA := Aside0.mk ha
  have HD := Aside0.mk hb
  have HL := Lib.hid hl
  clear ha hb hl
  have hmx := Kd.C_max HA.out.1
  go_enter Try.func28, Try.ntmps28
  by_cases hlen : a.length = b.length
  · have hlen2 : ((a.length : Int) != (b.length : Int)) = false := by rw [hlen]; simp
    have HN := Lib.hid hlen
    clear hlen
    go_wp2_with fail
    clear hlen2
    go_loopw [17] (fun i wr => ∃ k : Nat, k ≤ a.length ∧ i = .int .i64 k ∧ Aside0 (a.take k = b.take k) ∧ Aside0 (Below w.heap.size w wr)) (fun i _ => a.length - (intOf i).toNat)
    case atStart => exact ⟨0, Nat.zero_le _, rfl, ⟨by simp⟩, ⟨Below.refl _ _⟩⟩
    case round =>
      obtain ⟨k, hk, rfl, HT, HB⟩ := hrel
      by_cases hlt : k < a.length
      · obtain ⟨ad, A2, c2, hA, hrv, hlie⟩ := HA.out.at k hlt
        obtain ⟨bd, D2, d2, hD, hsv, hlie2⟩ := HD.out.at k (by have := HN.out; omega)
        have hT : a.take (k + 1) = a.take k ++ [a[k]] := List.take_succ_eq_append_getElem hlt
        have hT2 : b.take (k + 1) = b.take k ++ [b[k]] := List.take_succ_eq_append_getElem (by have := HN.out; omega)
        have h1000 := HL.out a[k] (List.getElem_mem hlt)
        have hlie := hlie.below HB.out
        have hlie2 := hlie2.below HB.out
        have hrv := hrv.below HB.out
        have hsv := hsv.below HB.out
        have hkb : k < b.length := by have := HN.out; omega
        have hdiff : a[k] ≠ b[k] → decide (a = b) = false := fun h => decide_eq_false (fun e => h (by simp only [e]))
        generalize a[k] = r at hrv hlie hT h1000 hdiff
        generalize b[k] = s at hsv hlie2 hT2 hdiff
        obtain ⟨x, hx⟩ : ∃ x, decide (r = s) = x := ⟨_, rfl⟩
        have HT2 : Hid (x = true → a.take (k + 1) = b.take (k + 1)) := Lib.hid (fun h => by
          rw [h] at hx
          rw [hT, hT2, HT.out, of_decide_eq_true hx])
        have HX : Hid (x = false → decide (a = b) = false) := Lib.hid (fun h => by
          rw [h] at hx
          exact hdiff (of_decide_eq_false hx))
        have HS : Aside0 (∀ w', Below wr.heap.size wr w' → Calls Try.prog 29 #[.agg (rv r A2 c2), .agg (rv s D2 d2)] w' fun e w'' => e = .returned (.bool x) ∧ Below w'.heap.size w' w'') := ⟨fun w' hw' => by have h := same_rv r s A2 D2 c2 d2 w' (hrv.below hw') (hsv.below hw') h1000; rwa [hx] at h⟩
        clear hT hT2 hx hdiff hrv hsv h1000
        subst hA
        subst hD
        have hHL := Lib.hid hlt
        go_wp2_with (first | (refine gate_ (.load 55 (.tmp 20)) rfl ?_; refine wpList_load_rv rfl 55 (.tmp 20) rfl (ad.add (k * 14)) rfl r A2 c2 _ hlie Try.underlying55 rfl (by kernel_rfl) ?_; simp only [Act.put, List.setIfInBounds_toArray, List.set_cons_zero, List.set_cons_succ]) | (refine gate_ (.store 55 (.tmp 8) (.tmp 21)) rfl ?_; refine wpList_store_row rfl 55 (.tmp 8) (.tmp 21) rfl wr.heap.size (rv r A2 c2) rfl rfl 55 _ (Blk.new _ _ _) (by kernel_rfl) rfl (rv_one _ _ _) ?_; simp only [Act.put, List.setIfInBounds_toArray, List.set_cons_zero, List.set_cons_succ]; have hp := put_new wr #[.int .i64 0, .int .i64 0, .int .i64 0, .int .i64 0, .int .i64 0, .slice none 0 0, .string ⟨#[]⟩, .int .i64 0, .int .i64 0, .int .i64 0, .string ⟨#[]⟩, .string ⟨#[]⟩, .int .i64 0, .int .i64 0] (rv r A2 c2) 55; generalize (wr.alloc (.cells #[.int .i64 0, .int .i64 0, .int .i64 0, .int .i64 0, .int .i64 0, .slice none 0 0, .string ⟨#[]⟩, .int .i64 0, .int .i64 0, .int .i64 0, .string ⟨#[]⟩, .string ⟨#[]⟩, .int .i64 0, .int .i64 0] 55)).setRow wr.heap.size (rv r A2 c2) = w1 at hp ⊢; replace HB := Aside0.mk (below2 HB.out HB.out.size hp.2); have HR1 := Aside0.mk hp.1; have hb1 := hp.2; have hlie2 := hlie2.below hp.2; clear hp) | (refine gate_ (.load 55 (.tmp 24)) rfl ?_; refine wpList_load_rv rfl 55 (.tmp 24) rfl (bd.add (k * 14)) rfl s D2 d2 _ hlie2 Try.underlying55 rfl (by kernel_rfl) ?_; simp only [Act.put, List.setIfInBounds_toArray, List.set_cons_zero, List.set_cons_succ]) | (refine gate_ (.store 55 (.tmp 9) (.tmp 25)) rfl ?_; refine wpList_store_row rfl 55 (.tmp 9) (.tmp 25) rfl w1.heap.size (rv s D2 d2) rfl rfl 55 _ (Blk.new _ _ _) (by kernel_rfl) rfl (rv_one _ _ _) ?_; simp only [Act.put, List.setIfInBounds_toArray, List.set_cons_zero, List.set_cons_succ]; have hp := put_new w1 #[.int .i64 0, .int .i64 0, .int .i64 0, .int .i64 0, .int .i64 0, .slice none 0 0, .string ⟨#[]⟩, .int .i64 0, .int .i64 0, .int .i64 0, .string ⟨#[]⟩, .string ⟨#[]⟩, .int .i64 0, .int .i64 0] (rv s D2 d2) 55; generalize (w1.alloc (.cells #[.int .i64 0, .int .i64 0, .int .i64 0, .int .i64 0, .int .i64 0, .slice none 0 0, .string ⟨#[]⟩, .int .i64 0, .int .i64 0, .int .i64 0, .string ⟨#[]⟩, .string ⟨#[]⟩, .int .i64 0, .int .i64 0] 55)).setRow w1.heap.size (rv s D2 d2) = w2 at hp ⊢; replace HB := Aside0.mk (below2 HB.out HB.out.size hp.2); have HR2 := Aside0.mk hp.1; replace HR1 := Aside0.mk (HR1.out.keep hp.2); have hb2 := below2 hb1 hb1.size hp.2; clear hp) | (refine gate_ (.load 55 (.tmp 8)) rfl ?_; refine wpList_load_row rfl 55 (.tmp 8) rfl wr.heap.size rfl _ (rv r A2 c2) (0, 0) _ HR1.out Try.underlying55 rfl (by kernel_rfl) ?_; simp only [Act.put, List.setIfInBounds_toArray, List.set_cons_zero, List.set_cons_succ]) | (refine gate_ (.load 55 (.tmp 9)) rfl ?_; refine wpList_load_row rfl 55 (.tmp 9) rfl w1.heap.size rfl _ (rv s D2 d2) (0, 0) _ HR2.out Try.underlying55 rfl (by kernel_rfl) ?_; simp only [Act.put, List.setIfInBounds_toArray, List.set_cons_zero, List.set_cons_succ]))
        refine (HS.out w2 hb2).mono ?_
        rintro e w3 ⟨rfl, b3⟩
        obtain rfl | rfl : x = true ∨ x = false := by cases x <;> simp
        · have ht := HT2.out rfl
          have hl1 := hHL.out
          clear HT2 HX HS
          go_wp2_with fail
          go_roundw
          case rel => exact ⟨k + 1, hl1, by go_num, ⟨ht⟩, ⟨below2 HB.out HB.out.size b3⟩⟩
          case measure => exact meas_lt hl1
        · have hx := Lib.hid (HX.out rfl)
          clear HT2 HX HS
          go_wp2_with fail
          go_ret
          rw [hx.out]
          exact ⟨rfl, below2 HB.out HB.out.size b3⟩
      · obtain rfl : k = a.length := by omega
        have h1 := HT.out
        rw [List.take_length] at h1
        have he : Hid (decide (a = b) = true) := Lib.hid (decide_eq_true (by rw [h1, HN.out, List.take_length]))
        clear h1 HT
        go_wp2_with fail
        go_ret
        rw [he.out]
        exact ⟨rfl, HB.out⟩
  · have hne := Lib.hid (show decide (a = b) = false from decide_eq_false (fun h => hlen (by rw [h])))
    have hlen2 : ((a.length : Int) != (b.length : Int)) = true := bne_iff_ne.mpr (by omega)
    clear hlen
    go_wp2_with fail
    go_ret
    rw [hne.out]
    exact ⟨rfl, Below.refl _ _⟩
end Go.Proofs.Ytmfcbfgijimliaa
end
section
namespace Go.Proofs.Ytmfcbfgijimliaa
open Go.RowKit Q Go.Proofs.YtmfcbfgijimliaaW.PrintWords Go.Proofs.YtmfcbfgijimliaaW.PrintLast Go.Proofs.YtmfcbfgijimliaaW.PrintMore
set_option maxRecDepth 100000 in
set_option maxHeartbeats 2000000 in
theorem begins_calls (A D : Option Addr) (c d : Nat) (a b : List RecP) (hl : ∀ r ∈ a, r.locs.length ≤ 1000) (w : World) (ha : LR w A c a) (hb : LR w D d b) :
    Calls Try.prog 16 #[.slice A a.length c, .slice D b.length d] w fun e w' => e = .returned (.bool (begL a b)) ∧ Below w.heap.size w w' := by
  have HA := Aside0.mk ha
  have HD := Aside0.mk hb
  have HL := Lib.hid hl
  have hbd := hb.2
  have hmx : b.length ≤ 9223372036854775807 := Kd.C_max HD.out.1
  have hma : a.length ≤ 9223372036854775807 := Kd.C_max HA.out.1
  clear ha hb hl
  go_enter Try.func16, Try.ntmps16
  by_cases hlen : a.length ≤ b.length
  · have hd : decide ((a.length : Int) ≤ (b.length : Int)) = true := decide_eq_true (by omega)
    have h := equal_calls A D c d a (b.take a.length) HL.out w HA.out (HD.out.take a.length hlen)
    rw [List.length_take, Nat.min_eq_left hlen] at h
    go_wp2_with fail
    refine h.mono ?_
    rintro e w' ⟨rfl, hb⟩
    go_wp2_with fail
    go_ret
    exact ⟨rfl, hb⟩
  · have hd : decide ((a.length : Int) ≤ (b.length : Int)) = false := decide_eq_false (by omega)
    have hne : Hid (begL a b = false) := Lib.hid (decide_eq_false (fun h => by
      have h2 := congrArg List.length h
      rw [List.length_take] at h2
      omega))
    have hlen2 : b.length < a.length := by omega
    have hd2 : decide (a.length ≤ b.length) = false := decide_eq_false hlen
    go_wp2_with fail
    go_ret
    rw [hne.out]
    exact ⟨rfl, Below.refl _ _⟩
end Go.Proofs.Ytmfcbfgijimliaa
end
section
namespace Go.Proofs.Ytmfcbfgijimliaa
open Go.RowKit Q Go.Proofs.YtmfcbfgijimliaaW.PrintWords Go.Proofs.YtmfcbfgijimliaaW.PrintLast Go.Proofs.YtmfcbfgijimliaaW.PrintMore
set_option maxRecDepth 100000 in
set_option maxHeartbeats 2000000 in
theorem missing_own (A D : Option Addr) (c d : Nat) (xs : List ByteArray) (L : List RecP) (hl : ∀ r ∈ L, r.locs.length ≤ 1000) (hL : L.length ≤ 1000) (w : World) (hC : Kd.C Kd.string w A xs.length xs) (hc : xs.length ≤ c) (hb : LR w D d L) :
    Calls Try.prog 20 #[.slice A xs.length c, .slice D L.length d] w fun e w' => ∃ (A' : Option Addr) (c' : Nat), e = .returned (.slice A' (missL xs L).length c') ∧ Kd.R (Kd.int .i64) 3 w' w.heap.size (fun k => w.heap.size ≤ k) (.slice A' (missL xs L).length c') (missL xs L) ∧ Below w.heap.size w w' := by
  have HC := Aside0.mk hC
  have HD := Aside0.mk hb
  have HL := Lib.hid hl
  have HM := Lib.hid hc
  have hmx : xs.length ≤ 9223372036854775807 := Kd.C_max hC
  clear hC hb hl hc
  go_enter Try.func20, Try.ntmps20
  go_wp2_with fail
  go_loopw [5, 12] (fun v i wr => ∃ (k n : Nat) (A1 : Option Addr) (c1 : Nat), k ≤ L.length ∧ i = .int .i64 k ∧ v = .slice A1 n c1 ∧ Aside0 (Kd.R (Kd.int .i64) 3 wr w.heap.size (fun k => w.heap.size ≤ k) (.slice A1 n c1) (missK xs L k)) ∧ Aside0 (Below w.heap.size w wr)) (fun _ i _ => L.length - (intOf i).toNat)
  case atStart => exact ⟨0, 0, none, 0, Nat.zero_le _, rfl, rfl, ⟨Kd.R_nil _ _ _ _ _⟩, ⟨Below.refl _ _⟩⟩
  case round =>
    obtain ⟨k, n, A1, c1, hk, rfl, rfl, HO, HB⟩ := hrel
    by_cases hlt : k < L.length
    · obtain ⟨ad, A2, c2, hA, hrv, hlie⟩ := HD.out.at k hlt
      have h1000 := HL.out L[k] (List.getElem_mem hlt)
      have hms : missC xs L k = decide (xs[k]? ≠ some (recW L[k]).1) := by unfold missC; rw [List.getElem?_eq_getElem hlt]; rfl
      have hlie := hlie.below HB.out
      have hrv := hrv.below HB.out
      generalize L[k] = r at hrv hlie h1000 hms
      have HMS := Lib.hid hms
      clear hms
      subst hA
      have hHL := Lib.hid hlt
      go_wp2_with (first | (refine gate_ (.load 55 (.tmp 15)) rfl ?_; refine wpList_load_rv rfl 55 (.tmp 15) rfl (ad.add (k * 14)) rfl r A2 c2 _ hlie Try.underlying55 rfl (by kernel_rfl) ?_; simp only [Act.put, List.setIfInBounds_toArray, List.set_cons_zero, List.set_cons_succ]) | (refine gate_ (.store 55 (.tmp 7) (.tmp 16)) rfl ?_; refine wpList_store_row rfl 55 (.tmp 7) (.tmp 16) rfl wr.heap.size (rv r A2 c2) rfl rfl 55 _ (Blk.new _ _ _) (by kernel_rfl) rfl (rv_one _ _ _) ?_; simp only [Act.put, List.setIfInBounds_toArray, List.set_cons_zero, List.set_cons_succ]; have hp := put_new wr #[.int .i64 0, .int .i64 0, .int .i64 0, .int .i64 0, .int .i64 0, .slice none 0 0, .string ⟨#[]⟩, .int .i64 0, .int .i64 0, .int .i64 0, .string ⟨#[]⟩, .string ⟨#[]⟩, .int .i64 0, .int .i64 0] (rv r A2 c2) 55; generalize (wr.alloc (.cells #[.int .i64 0, .int .i64 0, .int .i64 0, .int .i64 0, .int .i64 0, .slice none 0 0, .string ⟨#[]⟩, .int .i64 0, .int .i64 0, .int .i64 0, .string ⟨#[]⟩, .string ⟨#[]⟩, .int .i64 0, .int .i64 0] 55)).setRow wr.heap.size (rv r A2 c2) = w1 at hp ⊢; replace HB := Aside0.mk (below2 HB.out HB.out.size hp.2); replace HO := Aside0.mk (Kd.R_below HO.out hp.2); replace hrv := hrv.below hp.2; have HR1 := Aside0.mk hp.1; clear hp hlie) | (refine gate_ (.load 55 (.tmp 7)) rfl ?_; refine wpList_load_row rfl 55 (.tmp 7) rfl wr.heap.size rfl _ (rv r A2 c2) (0, 0) _ HR1.out Try.underlying55 rfl (by kernel_rfl) ?_; simp only [Act.put, List.setIfInBounds_toArray, List.set_cons_zero, List.set_cons_succ]))
      refine (write_rv r A2 c2 _ hrv h1000).mono ?_
      rintro e w2 ⟨rfl, b2⟩
      replace HB := Aside0.mk (below2 HB.out HB.out.size b2)
      replace HO := Aside0.mk (Kd.R_below HO.out b2)
      clear b2 hrv h1000
      obtain ⟨⟨ws, we⟩, hw⟩ : ∃ p, recW r = p := ⟨_, rfl⟩
      rw [hw] at HMS ⊢
      clear hw
      by_cases hx : k < xs.length
      · have hxd : decide (xs.length ≤ k) = false := decide_eq_false (by omega)
        obtain ⟨xd, hX, hcell⟩ := str_at HC.out k hx
        replace hcell := (HB.out.cell (World.block_lt_of_cell? _ _ hcell)).trans hcell
        have h2 := HMS.out
        rw [List.getElem?_eq_getElem hx] at h2
        generalize xs[k] = y at hcell h2
        subst hX
        by_cases hy : y = ws
        · have HMF : Hid (missC xs L k = false) := Lib.hid (by rw [h2]; exact decide_eq_false (by rw [hy]; simp))
          clear h2 HMS
          subst hy
          have hee : (y.toList != y.toList) = false := by simp
          have hl1 := hHL.out
          go_wp2_with fail
          have hsu : missK xs L (k + 1) = missK xs L k := by rw [missK_succ, HMF.out]; rfl
          go_roundw
          case rel => exact ⟨k + 1, n, A1, c1, hl1, by go_num, rfl, ⟨by rw [hsu]; exact HO.out⟩, HB⟩
          case measure => exact meas_lt hl1
        · have HMT : Hid (missC xs L k = true) := Lib.hid (by rw [h2]; exact decide_eq_true (by intro h; exact hy (Option.some.inj h)))
          clear h2 HMS
          have hee : (y.toList == ws.toList) = false := beq_eq_false_iff_ne.mpr (fun h => hy ((bytes_iff _ _).mp h))
          have hl1 := hHL.out
          go_wp2_with (first | (at_builtin; refine Kd.R_append (Kd.int .i64) (w0 := w2) w.heap.size rfl (.tmp 34) (.tmp 36) 42 3 (.int .i64 0) 8 rfl Try.underlying42 info3 rfl (by decide) (by decide) (.slice A1 n c1) (missK xs L k) (k : Int) [.int .i64 (k : Int)] (fun k => w.heap.size ≤ k) (fun _ => False) rfl rfl rfl (fun _ hk => hk.elim) (fun k hk => Nat.le_trans HB.out.size hk) HO.out (Below.refl _ _) HB.out.size (by have := missK_len xs L k; omega) ?_; intro v1 w3 hR3 hb3 hg3 _; have HR3 := Aside0.mk hR3; have HB3 := Aside0.mk (HB.out.trans hb3); obtain ⟨A3, c3, rfl⟩ := Kd.R_slice hR3; clear hR3 hb3 hg3))
          have hsu : missK xs L (k + 1) = missK xs L k ++ [(k : Int)] := by rw [missK_succ, HMT.out]; rfl
          go_roundw
          have h4 := HR3.out
          rw [List.length_append] at h4
          case rel => exact ⟨k + 1, _, A3, c3, hl1, by go_num, rfl, ⟨by rw [hsu]; exact h4⟩, HB3⟩
          case measure => exact meas_lt hl1
      · have HMT : Hid (missC xs L k = true) := Lib.hid (by
          rw [HMS.out]
          exact decide_eq_true (by rw [List.getElem?_eq_none (by omega)]; simp))
        clear HMS
        have hx2 : xs.length ≤ k := by omega
        have hxd : decide (xs.length ≤ k) = true := decide_eq_true hx2
        have hl1 := hHL.out
        go_wp2_with (first | (at_builtin; refine Kd.R_append (Kd.int .i64) (w0 := w2) w.heap.size rfl (.tmp 34) (.tmp 36) 42 3 (.int .i64 0) 8 rfl Try.underlying42 info3 rfl (by decide) (by decide) (.slice A1 n c1) (missK xs L k) (k : Int) [.int .i64 (k : Int)] (fun k => w.heap.size ≤ k) (fun _ => False) rfl rfl rfl (fun _ hk => hk.elim) (fun k hk => Nat.le_trans HB.out.size hk) HO.out (Below.refl _ _) HB.out.size (by have := missK_len xs L k; omega) ?_; intro v1 w3 hR3 hb3 hg3 _; have HR3 := Aside0.mk hR3; have HB3 := Aside0.mk (HB.out.trans hb3); obtain ⟨A3, c3, rfl⟩ := Kd.R_slice hR3; clear hR3 hb3 hg3))
        have hsu : missK xs L (k + 1) = missK xs L k ++ [(k : Int)] := by rw [missK_succ, HMT.out]; rfl
        go_roundw
        have h4 := HR3.out
        rw [List.length_append] at h4
        case rel => exact ⟨k + 1, _, A3, c3, hl1, by go_num, rfl, ⟨by rw [hsu]; exact h4⟩, HB3⟩
        case measure => exact meas_lt hl1
    · obtain rfl : k = L.length := by omega
      go_wp2_with fail
      refine bodyPost_ret (results_tmp rfl _ _ _) rfl ?_
      have h2 := Kd.R_reads' HO.out
      obtain ⟨rfl, _, _⟩ := h2
      exact ⟨A1, c1, rfl, HO.out, HB.out⟩
theorem missing_calls (A D : Option Addr) (c d : Nat) (xs : List ByteArray) (L : List RecP) (hl : ∀ r ∈ L, r.locs.length ≤ 1000) (hL : L.length ≤ 1000) (w : World) (hC : Kd.C Kd.string w A xs.length xs) (hc : xs.length ≤ c) (hb : LR w D d L) :
    Calls Try.prog 20 #[.slice A xs.length c, .slice D L.length d] w fun e w' => ∃ (A' : Option Addr) (c' : Nat), e = .returned (.slice A' (missL xs L).length c') ∧ Kd.C (Kd.int .i64) w' A' (missL xs L).length (missL xs L) ∧ (missL xs L).length ≤ c' ∧ Below w.heap.size w w' := by
  refine (missing_own A D c d xs L hl hL w hC hc hb).mono ?_
  rintro e w' ⟨A', c', rfl, hR, hB⟩
  have h2 := Kd.R_reads' hR
  exact ⟨A', c', rfl, h2.2.2, h2.2.1, hB⟩
end Go.Proofs.Ytmfcbfgijimliaa
end
section
namespace Go.Proofs.Ytmfcbfgijimliaa
open Go.RowKit Q Go.Proofs.YtmfcbfgijimliaaW.PrintWords Go.Proofs.YtmfcbfgijimliaaW.PrintLast Go.Proofs.YtmfcbfgijimliaaW.PrintMore
def smallS (l : List ByteArray) (many long : Int) : Bool := decide (∀ s ∈ l, (s.size : Int) ≤ long) && decide ((l.length : Int) ≤ many)
theorem wrap_suc {n i : Nat} (h : i < n) (hn : n ≤ 9223372036854775807) : wrap64 ((i : Int) + 1) = ((i + 1 : Nat) : Int) := by
  unfold wrap64
  omega
theorem small_l0 (l : List ByteArray) (a b : Int) (hl : l.length ≤ 9223372036854775807) : ∀ m i : Nat, i + m = l.length → sluicegateref02_Small.l0 (m + 1) l a b (i : Int) = some (decide (∀ s ∈ l.drop i, (s.size : Int) ≤ b) && decide ((l.length : Int) ≤ a))
  | 0, i, h => by
    unfold sluicegateref02_Small.l0
    rw [if_neg (by omega), List.drop_eq_nil_of_le (by omega)]
    simp
  | m + 1, i, h => by
    have hi : i < l.length := by omega
    have ih := small_l0 l a b hl m (i + 1) (by omega)
    unfold sluicegateref02_Small.l0
    rw [if_pos (by omega), if_pos (by omega), wrap_suc hi hl, ih, drop_at hi]
    have hr : rdOf ByteArray.empty l (i : Int) = l[i] := by simp [rdOf, hi]
    rw [hr]
    by_cases hb : (l[i].size : Int) > b
    · rw [if_pos hb, decide_eq_false (fun h2 => by have := h2 _ List.mem_cons_self; omega)]
      rfl
    · rw [if_neg hb]
      congr 2
      simp only [List.mem_cons, forall_eq_or_imp]
      exact decide_eq_decide.mpr ⟨fun h2 => ⟨by omega, h2⟩, fun h2 => h2.2⟩
theorem small12_calls (A : Option Addr) (c : Nat) (l : List ByteArray) (a b : Int) (w : World) (hr : Kd.C Kd.string w A l.length l) (hc : l.length ≤ c) : Calls Try.prog 9 #[.slice A l.length c, .int .i64 a, .int .i64 b] w fun e w' => e = .returned (.bool (smallS l a b)) ∧ Below w.heap.size w w' := by
  have h := small_l0 l a b (Kd.C_max hr) l.length 0 (by omega)
  refine (sluicegateref02_Small.calls (l.length + 1) A c l a b _ w hr hc h).mono ?_
  rintro e w' ⟨rfl, hd⟩
  exact ⟨rfl, hd.below⟩
theorem ints_l0 (x y : List Int) (he : x.length = y.length) (hl : x.length ≤ 9223372036854775807) : ∀ m i : Nat, i + m = x.length → sluicegateref06_Ints.l0 (m + 1) x y (i : Int) = some (decide (x.drop i = y.drop i))
  | 0, i, h => by
    unfold sluicegateref06_Ints.l0
    rw [if_neg (by omega), List.drop_eq_nil_of_le (by omega), List.drop_eq_nil_of_le (by omega)]
    simp
  | m + 1, i, h => by
    have hi : i < x.length := by omega
    have hj : i < y.length := by omega
    have ih := ints_l0 x y he hl m (i + 1) (by omega)
    unfold sluicegateref06_Ints.l0
    rw [if_pos (by omega), if_pos (by omega), if_pos (by omega), wrap_suc hi hl, ih, drop_at hi, drop_at hj]
    have h1 : rd x (i : Int) = x[i] := by simp [rd, hi]
    have h2 : rd y (i : Int) = y[i] := by simp [rd, hj]
    rw [h1, h2]
    by_cases hb : x[i] = y[i]
    · rw [if_pos hb]
      congr 1
      exact decide_eq_decide.mpr ⟨fun h3 => by rw [hb, h3], fun h3 => (List.cons.inj h3).2⟩
    · rw [if_neg hb, decide_eq_false (fun h3 => hb (List.cons.inj h3).1)]
theorem ints12_calls (A D : Option Addr) (c d : Nat) (x y : List Int) (w : World) (hx : Kd.C (Kd.int .i64) w A x.length x) (hc : x.length ≤ c) (hy : Kd.C (Kd.int .i64) w D y.length y) (hd : y.length ≤ d) : Calls Try.prog 19 #[.slice A x.length c, .slice D y.length d] w fun e w' => e = .returned (.bool (decide (x = y))) ∧ Below w.heap.size w w' := by
  have h : sluicegateref06_Ints.f (x.length + 1) x y = some (decide (x = y)) := by
    unfold sluicegateref06_Ints.f
    by_cases he : x.length = y.length
    · rw [if_pos (by omega)]
      exact ints_l0 x y he (Kd.C_max hx) x.length 0 (by omega)
    · rw [if_neg (by omega), decide_eq_false (fun h => he (by rw [h]))]
  refine (sluicegateref06_Ints.calls (x.length + 1) A c x D d y _ w hx hc hy hd h).mono ?_
  rintro e w' ⟨rfl, hd⟩
  exact ⟨rfl, hd.below⟩
theorem strs_new {W : World} {g : Nat} {xs : List ByteArray} (h : W.heap[g]? = some (.cells (xs.map Value.string).toArray 9 (0, 0))) (hm : xs.length ≤ 9223372036854775807) : Kd.C Kd.string W (some ⟨g, 0, none⟩) xs.length xs := by
  refine ⟨rfl, hm, fun _ => ⟨_, rfl, fun j p hj => ⟨[.string p], rfl, rfl, fun i u hu => ?_⟩⟩⟩
  have hi : i = 0 ∧ u = .string p := by
    cases i with
    | zero => exact ⟨rfl, (Option.some.inj hu).symm⟩
    | succ i => simp at hu
  obtain ⟨rfl, rfl⟩ := hi
  show W.cell? ((⟨g, 0, none⟩ : Addr).add (j * 1 + 0)) = _
  rw [Addr.add_mid]
  simp [World.cell?, h, hj]
theorem ints_new {W : World} {g : Nat} {xs : List Int} (h : W.heap[g]? = some (.cells (xs.map (Value.int .i64)).toArray 3 (0, 0))) (hm : xs.length ≤ 9223372036854775807) : Kd.C (Kd.int .i64) W (some ⟨g, 0, none⟩) xs.length xs := by
  refine ⟨rfl, hm, fun _ => ⟨_, rfl, fun j p hj => ⟨[.int .i64 p], rfl, rfl, fun i u hu => ?_⟩⟩⟩
  have hi : i = 0 ∧ u = .int .i64 p := by
    cases i with
    | zero => exact ⟨rfl, (Option.some.inj hu).symm⟩
    | succ i => simp at hu
  obtain ⟨rfl, rfl⟩ := hi
  show W.cell? ((⟨g, 0, none⟩ : Addr).add (j * 1 + 0)) = _
  rw [Addr.add_mid]
  simp [World.cell?, h, hj]
theorem logs_new {W : World} {g : Nat} (L : List (List ByteArray × Option Addr × Nat)) (h : W.heap[g]? = some (.cells (L.map fun x => Value.slice x.2.1 x.1.length x.2.2).toArray 22 (0, 0))) (hm : L.length ≤ 9223372036854775807) (hL : ∀ x ∈ L, x.1.length ≤ x.2.2 ∧ Kd.C Kd.string W x.2.1 x.1.length x.1) : Kd.C (Kd.slice 9 Kd.string) W (some ⟨g, 0, none⟩) L.length (L.map (·.1)) := by
  refine ⟨by simp, hm, fun _ => ⟨_, rfl, fun j p hj => ?_⟩⟩
  rw [List.getElem?_map] at hj
  obtain ⟨x, hx, rfl⟩ := Option.map_eq_some_iff.1 hj
  have h2 := hL x (List.mem_of_getElem? hx)
  refine ⟨[.slice x.2.1 x.1.length x.2.2], rfl, ⟨_, _, rfl, h2.1, h2.2⟩, fun i u hu => ?_⟩
  have hi : i = 0 ∧ u = .slice x.2.1 x.1.length x.2.2 := by
    cases i with
    | zero => exact ⟨rfl, (Option.some.inj hu).symm⟩
    | succ i => simp at hu
  obtain ⟨rfl, rfl⟩ := hi
  show W.cell? ((⟨g, 0, none⟩ : Addr).add (j * 1 + 0)) = _
  rw [Addr.add_mid]
  simp [World.cell?, h, hx]
end Go.Proofs.Ytmfcbfgijimliaa
end
section
namespace Go.Proofs.Ytmfcbfgijimliaa
open Go.RowKit Q Go.Proofs.YtmfcbfgijimliaaW.PrintWords Go.Proofs.YtmfcbfgijimliaaW.PrintLast Go.Proofs.YtmfcbfgijimliaaW.PrintMore
def raL : RecP := ⟨0, 1, 0, 0, 0, [], ⟨#[]⟩, 0, 0, 0, ⟨#[]⟩, ⟨#[97]⟩, 0, 0⟩
def rbL : RecP := ⟨1, 1, 0, 0, 0, [], ⟨#[]⟩, 0, 0, 0, ⟨#[]⟩, ⟨#[98]⟩, 0, 0⟩
theorem raL_chk : chkR raL = 0 := by kernel_rfl
theorem rbL_chk : chkR rbL = 0 := by kernel_rfl
theorem raL_t : recT raL = [83, 74, 0, 1, 1, 97] := by simp [raL, recT, headT, encK, txt, enc_lt]
theorem live_ab : ∃ a b : ByteArray, recW raL = (a, 0) ∧ recW rbL = (b, 0) ∧ (a.size ≤ 152 ∧ b.size ≤ 152) ∧ preL [a, b, a] 0 = [raL, rbL] ∧ chK [[b], [a], [a, b], [a, b]] 4 = ([raL, rbL], 2) ∧ begL [raL] [raL, rbL] = true ∧ begL [raL, rbL] [raL] = false ∧ missL [⟨#[120]⟩, b] [raL, rbL] = [0] ∧ missL [] [raL, rbL] = [0, 1] := by
  have ha : recW raL = (B (sealL (recT raL)), 0) := if_pos raL_chk
  have hb : recW rbL = (B (sealL (recT rbL)), 0) := if_pos rbL_chk
  have sa := recW_len raL
  have sb := recW_len rbL
  have hsz : (B (sealL (recT raL))).size = 10 := by rw [B_size, sealL_len, raL_t]; rfl
  have hra : recR (B (sealL (recT raL))).data.toList = (raL, 0) := recR_back _ raL_chk
  have hrb : recR (B (sealL (recT rbL))).data.toList = (rbL, 0) := recR_back _ rbL_chk
  rw [ha] at sa
  rw [hb] at sb
  have hna : (⟨#[120]⟩ : ByteArray) ≠ B (sealL (recT raL)) := fun h => by
    rw [← h] at hsz
    exact absurd hsz (by decide)
  generalize B (sealL (recT raL)) = a at *
  generalize B (sealL (recT rbL)) = b at *
  have s0 : raL.seq = 0 := rfl
  have s1 : rbL.seq = 1 := rfl
  have pa : preL [a] 0 = [raL] := by simp [preL, hra, s0]
  have pb : preL [b] 0 = [] := by simp [preL, hrb, s1]
  have pab : preL [a, b] 0 = [raL, rbL] := by simp [preL, hra, hrb, s0, s1]
  have m0 : missC [⟨#[120]⟩, b] [raL, rbL] 0 = true := decide_eq_true (by
    show some (⟨#[120]⟩ : ByteArray) ≠ some (recW raL).1
    rw [ha]
    exact fun h => hna (Option.some.inj h))
  have m1 : missC [⟨#[120]⟩, b] [raL, rbL] 1 = false := decide_eq_false (by
    show ¬ (some b ≠ some (recW rbL).1)
    rw [hb]
    exact fun h => h rfl)
  refine ⟨a, b, ha, hb, ⟨sa, sb⟩, by simp [preL, hra, hrb, s0, s1], ?_, decide_eq_true rfl, decide_eq_false ?_, ?_, ?_⟩
  · have e0 : chK [[b], [a], [a, b], [a, b]] 0 = ([], -1) := rfl
    have e1 : chK [[b], [a], [a, b], [a, b]] 1 = ([], 0) := by
      rw [chK_succ, e0, show ([[b], [a], [a, b], [a, b]] : List (List ByteArray)).getD 0 [] = [b] from rfl, pb]
      rfl
    have e2 : chK [[b], [a], [a, b], [a, b]] 2 = ([raL], 1) := by
      rw [chK_succ, e1, show ([[b], [a], [a, b], [a, b]] : List (List ByteArray)).getD 1 [] = [a] from rfl, pa]
      rfl
    have e3 : chK [[b], [a], [a, b], [a, b]] 3 = ([raL, rbL], 2) := by
      rw [chK_succ, e2, show ([[b], [a], [a, b], [a, b]] : List (List ByteArray)).getD 2 [] = [a, b] from rfl, pab]
      rfl
    rw [chK_succ, e3, show ([[b], [a], [a, b], [a, b]] : List (List ByteArray)).getD 3 [] = [a, b] from rfl, pab]
    rfl
  · intro h
    exact absurd (congrArg List.length h) (by decide)
  · show missK _ _ 2 = _
    rw [missK_succ, missK_succ, m0, m1]
    rfl
  · rfl
theorem wa12 (a : ByteArray) (h : recW raL = (a, 0)) (w : World) : Calls Try.prog 24 #[.agg #[.int .i64 0, .int .i64 1, .int .i64 0, .int .i64 0, .int .i64 0, (.slice none 0 0), .string ⟨#[]⟩, .int .i64 0, .int .i64 0, .int .i64 0, .string ⟨#[]⟩, .string (⟨#[97]⟩ : ByteArray), .int .i64 0, .int .i64 0]] w fun e w' => e = .returned (.tuple #[.string a, .int .i64 0]) ∧ Below w.heap.size w w' := by
  have h2 := write_rv raL none 0 w ⟨Kd.C_nil _ _, Nat.zero_le _⟩ (by decide)
  rw [h] at h2
  exact h2
theorem wb12 (b : ByteArray) (h : recW rbL = (b, 0)) (w : World) : Calls Try.prog 24 #[.agg #[.int .i64 1, .int .i64 1, .int .i64 0, .int .i64 0, .int .i64 0, (.slice none 0 0), .string ⟨#[]⟩, .int .i64 0, .int .i64 0, .int .i64 0, .string ⟨#[]⟩, .string (⟨#[98]⟩ : ByteArray), .int .i64 0, .int .i64 0]] w fun e w' => e = .returned (.tuple #[.string b, .int .i64 0]) ∧ Below w.heap.size w w' := by
  have h2 := write_rv rbL none 0 w ⟨Kd.C_nil _ _, Nat.zero_le _⟩ (by decide)
  rw [h] at h2
  exact h2
set_option maxRecDepth 100000 in
set_option maxHeartbeats 4000000 in
theorem live12_calls (w : World) : Calls Try.prog 10 #[] w fun e w' => e = .returned (.bool true) ∧ Below w.heap.size w w' := by
  obtain ⟨a, b, ha, hb, ⟨sa, sb⟩, hP, hCh, hb1, hb2, hm1, hm2⟩ := live_ab
  have HA := Lib.hid ha
  have HBB := Lib.hid hb
  have HPL := Lib.hid hP
  have HCH := Lib.hid hCh
  have HB1 := Lib.hid hb1
  have HB2 := Lib.hid hb2
  have HM1 := Lib.hid hm1
  have HM2 := Lib.hid hm2
  have HSa := Lib.hid sa
  have HSb := Lib.hid sb
  clear ha hb hP hCh hb1 hb2 hm1 hm2 sa sb
  have HB : Aside0 (Below w.heap.size w w) := ⟨Below.refl _ _⟩
  go_enter Try.func10, Try.ntmps10
  go_wp2_with fail
  refine (wa12 a HA.out _).mono ?_
  rintro e w1 ⟨rfl, b1⟩
  replace HB := Aside0.mk (below2 HB.out HB.out.size b1)
  clear b1
  go_wp2_with fail
  refine (wb12 b HBB.out _).mono ?_
  rintro e w2 ⟨rfl, b1⟩
  replace HB := Aside0.mk (below2 HB.out HB.out.size b1)
  clear b1
  go_wp2_with fail
  have h := prefix_calls (some ⟨w2.heap.size, 0, none⟩) 3 [a, b, a] (by intro s hs; have := HSa.out; have := HSb.out; simp at hs; rcases hs with rfl | rfl | rfl <;> omega) (show 3 ≤ 1048576 by decide) (w2.alloc (.cells #[.string a, .string b, .string a] 9)) (strs_new (xs := [a, b, a]) (heap_alloc_new _ _) (show 3 ≤ 9223372036854775807 by decide)) (Nat.le_refl 3)
  rw [HPL.out] at h
  refine h.mono ?_
  rintro e w3 ⟨A1, c1, rfl, hL, b1⟩
  have HL := Aside0.mk hL
  replace HB := Aside0.mk (below2 (below_alloc HB.out _) (by have := HB.out.size; simp; omega) b1)
  clear h hL b1
  go_wp2_with fail
  have z1 : (w3.alloc (.cells #[.string b] 9)).heap.size = w3.heap.size + 1 := World.size_alloc _ _
  have z2 : ((w3.alloc (.cells #[.string b] 9)).alloc (.cells #[.string a] 9)).heap.size = w3.heap.size + 1 + 1 := (World.size_alloc _ _).trans (by rw [z1])
  have z3 : (((w3.alloc (.cells #[.string b] 9)).alloc (.cells #[.string a] 9)).alloc (.cells #[.string a, .string b] 9)).heap.size = w3.heap.size + 1 + 1 + 1 := (World.size_alloc _ _).trans (by rw [z2])
  have z4 : ((((w3.alloc (.cells #[.string b] 9)).alloc (.cells #[.string a] 9)).alloc (.cells #[.string a, .string b] 9)).alloc (.cells #[.string a, .string b] 9)).heap.size = w3.heap.size + 1 + 1 + 1 + 1 := (World.size_alloc _ _).trans (by rw [z3])
  have k0 := strs_new (W := (w3.alloc (.cells #[.string b] 9))) (g := w3.heap.size) (xs := [b]) (heap_alloc_new _ _) (show 1 ≤ 9223372036854775807 by decide)
  replace k0 := Kd.C_alloc k0 (.cells #[.string a] 9)
  replace k0 := Kd.C_alloc k0 (.cells #[.string a, .string b] 9)
  replace k0 := Kd.C_alloc k0 (.cells #[.string a, .string b] 9)
  have k1 := strs_new (W := ((w3.alloc (.cells #[.string b] 9)).alloc (.cells #[.string a] 9))) (g := (w3.heap.size + 1)) (xs := [a]) (by rw [← z1]; exact heap_alloc_new _ _) (show 1 ≤ 9223372036854775807 by decide)
  replace k1 := Kd.C_alloc k1 (.cells #[.string a, .string b] 9)
  replace k1 := Kd.C_alloc k1 (.cells #[.string a, .string b] 9)
  have k2 := strs_new (W := (((w3.alloc (.cells #[.string b] 9)).alloc (.cells #[.string a] 9)).alloc (.cells #[.string a, .string b] 9))) (g := (w3.heap.size + 1 + 1)) (xs := [a, b]) (by rw [← z2]; exact heap_alloc_new _ _) (show 2 ≤ 9223372036854775807 by decide)
  replace k2 := Kd.C_alloc k2 (.cells #[.string a, .string b] 9)
  have k3 := strs_new (W := ((((w3.alloc (.cells #[.string b] 9)).alloc (.cells #[.string a] 9)).alloc (.cells #[.string a, .string b] 9)).alloc (.cells #[.string a, .string b] 9))) (g := (w3.heap.size + 1 + 1 + 1)) (xs := [a, b]) (by rw [← z3]; exact heap_alloc_new _ _) (show 2 ≤ 9223372036854775807 by decide)
  have kb : Below w3.heap.size w3 ((((w3.alloc (.cells #[.string b] 9)).alloc (.cells #[.string a] 9)).alloc (.cells #[.string a, .string b] 9)).alloc (.cells #[.string a, .string b] 9)) := below_alloc (below_alloc (below_alloc (below_alloc (Below.refl _ _) _) _) _) _
  clear z1 z2 z3
  generalize ((((w3.alloc (.cells #[.string b] 9)).alloc (.cells #[.string a] 9)).alloc (.cells #[.string a, .string b] 9)).alloc (.cells #[.string a, .string b] 9)) = W4 at *
  have kl := logs_new (W := W4.alloc (.cells #[.slice (some ⟨w3.heap.size, 0, none⟩) 1 1, .slice (some ⟨w3.heap.size + 1, 0, none⟩) 1 1, .slice (some ⟨w3.heap.size + 1 + 1, 0, none⟩) 2 2, .slice (some ⟨w3.heap.size + 1 + 1 + 1, 0, none⟩) 2 2] 22)) (g := w3.heap.size + 1 + 1 + 1 + 1) [([b], some ⟨w3.heap.size, 0, none⟩, 1), ([a], some ⟨w3.heap.size + 1, 0, none⟩, 1), ([a, b], some ⟨w3.heap.size + 1 + 1, 0, none⟩, 2), ([a, b], some ⟨w3.heap.size + 1 + 1 + 1, 0, none⟩, 2)] (by rw [← z4]; exact heap_alloc_new _ _) (show 4 ≤ 9223372036854775807 by decide) (by
    intro x hx
    simp only [List.mem_cons, List.not_mem_nil, or_false] at hx
    rcases hx with rfl | rfl | rfl | rfl
    · exact ⟨Nat.le_refl 1, Kd.C_alloc k0 _⟩
    · exact ⟨Nat.le_refl 1, Kd.C_alloc k1 _⟩
    · exact ⟨Nat.le_refl 2, Kd.C_alloc k2 _⟩
    · exact ⟨Nat.le_refl 2, Kd.C_alloc k3 _⟩)
  have h := choose_calls (some ⟨w3.heap.size + 1 + 1 + 1 + 1, 0, none⟩) 4 [[b], [a], [a, b], [a, b]] (by
    have := HSa.out
    have := HSb.out
    intro xs hx
    simp only [List.mem_cons, List.not_mem_nil, or_false] at hx
    rcases hx with rfl | rfl | rfl | rfl <;> (refine ⟨by simp, ?_⟩; intro s hs; simp only [List.mem_cons, List.not_mem_nil, or_false] at hs; first | (rcases hs with rfl | rfl <;> omega) | (subst hs; omega))) (show 4 ≤ 1000 by decide) (W4.alloc (.cells #[.slice (some ⟨w3.heap.size, 0, none⟩) 1 1, .slice (some ⟨w3.heap.size + 1, 0, none⟩) 1 1, .slice (some ⟨w3.heap.size + 1 + 1, 0, none⟩) 2 2, .slice (some ⟨w3.heap.size + 1 + 1 + 1, 0, none⟩) 2 2] 22)) kl (Nat.le_refl 4)
  rw [show (chK [[b], [a], [a, b], [a, b]] ([[b], [a], [a, b], [a, b]] : List (List ByteArray)).length) = ([raL, rbL], 2) from HCH.out] at h
  refine h.mono ?_
  rintro e w5 ⟨A2, c2, rfl, hL, b1⟩
  replace HL := Aside0.mk ((HL.out.below kb).below (below2 (below_alloc (Below.refl _ _) (.cells #[.slice (some ⟨w3.heap.size, 0, none⟩) 1 1, .slice (some ⟨w3.heap.size + 1, 0, none⟩) 1 1, .slice (some ⟨w3.heap.size + 1 + 1, 0, none⟩) 2 2, .slice (some ⟨w3.heap.size + 1 + 1 + 1, 0, none⟩) 2 2] 22)) (by simp) b1))
  replace HB := Aside0.mk (below2 (below2 HB.out HB.out.size kb) (by have := HB.out.size; have := kb.size; omega) (below2 (below_alloc (Below.refl _ _) (.cells #[.slice (some ⟨w3.heap.size, 0, none⟩) 1 1, .slice (some ⟨w3.heap.size + 1, 0, none⟩) 1 1, .slice (some ⟨w3.heap.size + 1 + 1, 0, none⟩) 2 2, .slice (some ⟨w3.heap.size + 1 + 1 + 1, 0, none⟩) 2 2] 22)) (by simp) b1))
  clear h hL b1 kl kb k0 k1 k2 k3 z4
  go_wp2_with fail
  have h := choose_calls none 0 [] (by intro xs hx; cases hx) (show 0 ≤ 1000 by decide) w5 ⟨rfl, by simp, fun h => absurd h (Nat.lt_irrefl 0)⟩ (Nat.le_refl 0)
  refine h.mono ?_
  rintro e w6 ⟨A3, c3, rfl, hL3, b1⟩
  replace HL := Aside0.mk (HL.out.below b1)
  replace HB := Aside0.mk (below2 HB.out HB.out.size b1)
  clear h hL3 b1
  have hc1 : 2 ≤ c1 := HL.out.2
  have hc2 : 1 ≤ c1 := by omega
  have hlc : ∀ r ∈ [raL, rbL], r.locs.length ≤ 1000 ∧ r.ekey.size ≤ 140737488355328 ∧ r.key.size ≤ 140737488355328 := by
    intro r hr
    simp only [List.mem_cons, List.not_mem_nil, or_false] at hr
    rcases hr with rfl | rfl <;> decide
  have HLC := Lib.hid hlc
  clear hlc
  go_wp2_with fail
  have h := begins_calls A1 A1 c1 c1 [raL] [raL, rbL] (fun r hr => (HLC.out r (by simp only [List.mem_cons, List.not_mem_nil, or_false] at hr ⊢; exact .inl hr)).1) w6 (HL.out.take 1 (show 1 ≤ 2 by decide)) HL.out
  rw [HB1.out] at h
  refine h.mono ?_
  rintro e w7 ⟨rfl, b1⟩
  replace HL := Aside0.mk (HL.out.below b1)
  replace HB := Aside0.mk (below2 HB.out HB.out.size b1)
  clear h b1
  go_wp2_with fail
  have h := begins_calls A1 A1 c1 c1 [raL, rbL] [raL] (fun r hr => (HLC.out r hr).1) w7 HL.out (HL.out.take 1 (show 1 ≤ 2 by decide))
  rw [HB2.out] at h
  refine h.mono ?_
  rintro e w8 ⟨rfl, b1⟩
  replace HL := Aside0.mk (HL.out.below b1)
  replace HB := Aside0.mk (below2 HB.out HB.out.size b1)
  clear h b1
  go_wp2_with fail
  have h := missing_calls (some ⟨w8.heap.size, 0, none⟩) A1 2 c1 [⟨#[120]⟩, b] [raL, rbL] (fun r hr => (HLC.out r hr).1) (show 2 ≤ 1000 by decide) (w8.alloc (.cells #[.string ⟨#[120]⟩, .string b] 9)) (strs_new (xs := [⟨#[120]⟩, b]) (heap_alloc_new _ _) (show 2 ≤ 9223372036854775807 by decide)) (Nat.le_refl 2) (HL.out.below (below_alloc (Below.refl _ _) _))
  rw [HM1.out] at h
  refine h.mono ?_
  rintro e w9 ⟨A4, c4, rfl, hC4, hc4, b1⟩
  replace HL := Aside0.mk (HL.out.below (below2 (below_alloc (Below.refl _ _) _) (by simp) b1))
  replace HB := Aside0.mk (below2 (below_alloc HB.out _) (by have := HB.out.size; simp; omega) b1)
  clear h b1
  go_wp2_with fail
  have h := ints12_calls A4 (some ⟨w9.heap.size, 0, none⟩) c4 1 [0] [0] (w9.alloc (.cells #[.int .i64 0] 3)) (Kd.C_alloc hC4 _) hc4 (ints_new (xs := [0]) (heap_alloc_new _ _) (show 1 ≤ 9223372036854775807 by decide)) (Nat.le_refl 1)
  rw [decide_eq_true rfl] at h
  refine h.mono ?_
  rintro e w10 ⟨rfl, b1⟩
  replace HL := Aside0.mk (HL.out.below (below2 (below_alloc (Below.refl _ _) _) (by simp) b1))
  replace HB := Aside0.mk (below2 (below_alloc HB.out _) (by have := HB.out.size; simp; omega) b1)
  clear h b1 hC4 hc4
  go_wp2_with fail
  have h := missing_calls none A1 0 c1 [] [raL, rbL] (fun r hr => (HLC.out r hr).1) (show 2 ≤ 1000 by decide) w10 ⟨rfl, by simp, fun h => absurd h (Nat.lt_irrefl 0)⟩ (Nat.le_refl 0) HL.out
  rw [HM2.out] at h
  refine h.mono ?_
  rintro e w11 ⟨A4, c4, rfl, hC4, hc4, b1⟩
  replace HB := Aside0.mk (below2 HB.out HB.out.size b1)
  clear h b1 HL
  go_wp2_with fail
  have h := ints12_calls A4 (some ⟨w11.heap.size, 0, none⟩) c4 2 [0, 1] [0, 1] (w11.alloc (.cells #[.int .i64 0, .int .i64 1] 3)) (Kd.C_alloc hC4 _) hc4 (ints_new (xs := [0, 1]) (heap_alloc_new _ _) (show 2 ≤ 9223372036854775807 by decide)) (Nat.le_refl 2)
  rw [decide_eq_true rfl] at h
  refine h.mono ?_
  rintro e w12 ⟨rfl, b1⟩
  replace HB := Aside0.mk (below2 (below_alloc HB.out _) (by have := HB.out.size; simp; omega) b1)
  clear h b1 hC4 hc4
  go_wp2_with fail
  go_ret
  exact ⟨rfl, HB.out⟩
end Go.Proofs.Ytmfcbfgijimliaa
end
section
namespace Go.Proofs.Ytmfcbfgijimliaa
open Go.RowKit Q Go.Proofs.YtmfcbfgijimliaaW.PrintWords Go.Proofs.YtmfcbfgijimliaaW.PrintLast Go.Proofs.YtmfcbfgijimliaaW.PrintMore
theorem begL_iff (a b : List RecP) : begL a b = true ↔ a <+: b := by
  unfold begL
  rw [decide_eq_true_eq]
  exact List.prefix_iff_eq_take.symm
theorem chK_max (logs : List (List ByteArray)) : ∀ k : Nat, (∀ i : Nat, i < k → (preL (logs.getD i []) 0).length ≤ (chK logs k).1.length ∧ ((i : Int) < (chK logs k).2 → (preL (logs.getD i []) 0).length < (chK logs k).1.length)) ∧ (0 < k → ∃ z : Nat, (chK logs k).2 = (z : Int) ∧ z < k ∧ (chK logs k).1 = preL (logs.getD z []) 0)
  | 0 => ⟨fun i h => absurd h (Nat.not_lt_zero _), fun h => absurd h (Nat.lt_irrefl _)⟩
  | k + 1 => by
    obtain ⟨h1, h2⟩ := chK_max logs k
    rw [chK_succ]
    by_cases hc : (chK logs k).2 < 0 ∨ (chK logs k).1.length < (preL (logs.getD k []) 0).length
    · rw [if_pos hc]
      refine ⟨fun i hi => ?_, fun _ => ⟨k, rfl, Nat.lt_succ_self k, rfl⟩⟩
      by_cases hik : i = k
      · subst hik
        exact ⟨Nat.le_refl _, fun h => absurd h (by simp)⟩
      · have hi2 : i < k := by omega
        rcases hc with hc | hc
        · obtain ⟨z, hz, _⟩ := h2 (by omega)
          omega
        · have h3 := (h1 i hi2).1
          simp only
          exact ⟨by omega, fun _ => by omega⟩
    · rw [if_neg hc]
      have hn : ¬ (chK logs k).2 < 0 ∧ ¬ (chK logs k).1.length < (preL (logs.getD k []) 0).length := ⟨fun h => hc (.inl h), fun h => hc (.inr h)⟩
      by_cases hk0 : k = 0
      · subst hk0
        exact absurd (show (chK logs 0).2 < 0 by show (-1 : Int) < 0; decide) hn.1
      · obtain ⟨z, hz, hzk, hb⟩ := h2 (by omega)
        refine ⟨fun i hi => ?_, fun _ => ⟨z, hz, by omega, hb⟩⟩
        by_cases hik : i = k
        · subst hik
          exact ⟨by omega, fun h => by omega⟩
        · exact h1 i (by omega)
theorem chK_locs (logs : List (List ByteArray)) : ∀ (k : Nat) (r : RecP), r ∈ (chK logs k).1 → r.locs.length ≤ 9
  | 0, r, h => by cases h
  | k + 1, r, h => by
    rw [chK_succ] at h
    split at h
    · exact preL_locs _ _ r h
    · exact chK_locs logs k r h
set_option maxRecDepth 100000 in
set_option maxHeartbeats 4000000 in
theorem longest12 (A0 : Option Addr) (c0 : Nat) (l0 : List (List ByteArray)) (w : World) (hr0 : Kd.C (Kd.slice 9 Kd.string) w A0 l0.length l0) (hc0 : l0.length ≤ c0) (hz : ∀ xs ∈ l0, xs.length ≤ 1048576 ∧ ∀ s ∈ xs, s.size ≤ 140737488355328) : Calls Try.prog 5 #[.slice A0 l0.length c0] w fun e w' => e = .returned (.bool true) ∧ Below w.heap.size w w' := by
  have HC := Aside0.mk hr0
  have HN := Lib.hid hc0
  have HZ := Lib.hid hz
  have HB : Aside0 (Below w.heap.size w w) := ⟨Below.refl _ _⟩
  clear hr0 hc0 hz
  go_enter Try.func5, Try.ntmps5
  by_cases hlen : 14 < l0.length
  · have hl3 : decide (14 < (l0.length : Int)) = true := decide_eq_true (by omega)
    go_wp2_with fail
    refine (live12_calls _).mono ?_
    rintro e wl ⟨rfl, bl⟩
    go_wp2_with fail
    go_ret
    exact ⟨rfl, below2 HB.out HB.out.size bl⟩
  · have hl3 : decide (14 < (l0.length : Int)) = false := decide_eq_false (by omega)
    have HLN := Lib.hid (show l0.length ≤ 14 by omega)
    go_wp2_with fail
    have hcc := choose_calls A0 c0 l0 HZ.out (by have := HLN.out; omega) w HC.out HN.out
    refine hcc.mono ?_
    rintro e w1 ⟨A1, c1, rfl, hP, b1⟩
    replace HB := Aside0.mk (below2 HB.out HB.out.size b1)
    replace HC := Aside0.mk (Kd.C_below HC.out b1)
    have HP := Aside0.mk hP
    clear hcc b1 hP
    have HPS : Hid (∀ r ∈ (chK l0 l0.length).1, r.locs.length ≤ 1000) := Lib.hid (fun r hr => by have := chK_locs l0 _ r hr; omega)
    obtain ⟨hmx, hz0⟩ := chK_max l0 l0.length
    have hrn := chK_rng l0 l0.length
    have he0 : l0.length = 0 → (chK l0 l0.length).2 = -1 := fun h => by rw [h]; rfl
    obtain ⟨⟨b, z⟩, hp⟩ : ∃ p, chK l0 l0.length = p := ⟨_, rfl⟩
    rw [hp] at HP HPS hmx hz0 he0 hrn ⊢
    clear hp
    simp only at HP HPS hmx hz0 he0 hrn ⊢
    have HMX := Lib.hid hmx
    have HZ0 := Lib.hid hz0
    clear hmx hrn
    by_cases hl00 : l0.length = 0
    · have hzm := he0 hl00
      subst hzm
      have hq1 : ((l0.length : Int) == 0) = true := beq_iff_eq.mpr (by omega)
      have hq2 : decide ((l0.length : Int) ≤ -1) = false := decide_eq_false (by omega)
      clear he0 hz0
      go_wp2_with fail
      go_loopw [5] (fun i wr => ∃ k : Nat, k ≤ l0.length ∧ i = .int .i64 k ∧ Aside0 (Below w.heap.size w wr) ∧ Aside0 (Kd.C (Kd.slice 9 Kd.string) wr A0 l0.length l0) ∧ Aside0 (LR wr A1 c1 b)) (fun i _ => l0.length - (intOf i).toNat)
      case atStart => exact ⟨0, Nat.zero_le _, rfl, HB, HC, HP⟩
      case round =>
        clear HB HC HP
        obtain ⟨k, hk, rfl, HB, HC, HP⟩ := hrel
        by_cases hlt : k < l0.length
        · exact absurd hlt (by omega)
        · obtain rfl : k = l0.length := by omega
          go_wp2_with fail
          refine (live12_calls _).mono ?_
          rintro e wl ⟨rfl, bl⟩
          go_wp2_with fail
          go_ret
          exact ⟨rfl, below2 HB.out HB.out.size bl⟩
    · obtain ⟨zz, hzz, hzl, hzzb⟩ := hz0 (by omega)
      have hq1 : ((l0.length : Int) == 0) = false := beq_eq_false_iff_ne.mpr (by omega)
      have hq0 : decide (z < 0) = false := decide_eq_false (by omega)
      have hq2 : decide ((l0.length : Int) ≤ z) = false := decide_eq_false (by omega)
      have hq3 : decide (z < -1) = false := decide_eq_false (by omega)
      clear he0 hz0 hzz hzl hzzb
      go_wp2_with fail
      go_loopw [5] (fun i wr => ∃ k : Nat, k ≤ l0.length ∧ i = .int .i64 k ∧ Aside0 (Below w.heap.size w wr) ∧ Aside0 (Kd.C (Kd.slice 9 Kd.string) wr A0 l0.length l0) ∧ Aside0 (LR wr A1 c1 b)) (fun i _ => l0.length - (intOf i).toNat)
      case atStart => exact ⟨0, Nat.zero_le _, rfl, HB, HC, HP⟩
      case round =>
        clear HB HC HP
        obtain ⟨k, hk, rfl, HB, HC, HP⟩ := hrel
        by_cases hlt : k < l0.length
        · obtain ⟨zi, hzi, hzk, hzb⟩ := HZ0.out (by omega)
          subst hzi
          have hmax := HMX.out k hlt
          have hgd : l0.getD k [] = l0[k] := by rw [List.getD_eq_getElem?_getD, List.getElem?_eq_getElem hlt]; rfl
          have heqz : k = zi → b = preL l0[k] 0 := fun h => by rw [hzb, ← h, hgd]
          rw [hgd] at hmax
          have hz3 := HZ.out l0[k] (List.getElem_mem hlt)
          obtain ⟨ad, A2, c2, hA, hcell, hxc, hxs⟩ := log_at HC.out k hlt
          generalize l0[k] = r at hcell hxc hxs hmax heqz hz3
          have HMAX := Lib.hid hmax
          have HEQ := Lib.hid heqz
          have HRZ := Lib.hid hz3
          have hHL := Lib.hid hlt
          clear hmax heqz hgd hzb hz3
          subst hA
          go_wp2_with fail
          have hcc := small12_calls A2 c2 r 20 300 wr hxs hxc
          refine hcc.mono ?_
          rintro e w1 ⟨rfl, b1⟩
          replace HB := Aside0.mk (below2 HB.out HB.out.size b1)
          replace HC := Aside0.mk (Kd.C_below HC.out b1)
          replace HP := Aside0.mk (HP.out.below b1)
          have HXS := Aside0.mk (Kd.C_below hxs b1)
          have hcell := (b1.cell (World.block_lt_of_cell? _ _ hcell)).trans hcell
          clear hcc b1
          cases hsr : smallS r 20 300 with
          | false =>
            go_wp2_with fail
            refine (live12_calls _).mono ?_
            rintro e wl ⟨rfl, bl⟩
            go_wp2_with fail
            go_ret
            exact ⟨rfl, below2 HB.out HB.out.size bl⟩
          | true =>
            clear hsr
            go_wp2_with fail
            have hcc := prefix_calls A2 c2 r HRZ.out.2 HRZ.out.1 w1 HXS.out hxc
            refine hcc.mono ?_
            rintro e w2 ⟨A3, c3, rfl, hP, b1⟩
            replace HB := Aside0.mk (below2 HB.out HB.out.size b1)
            replace HC := Aside0.mk (Kd.C_below HC.out b1)
            replace HP := Aside0.mk (HP.out.below b1)
            have HQ := Aside0.mk hP
            clear hcc b1 hP
            have HQK : Hid (∀ q ∈ preL r 0, q.locs.length ≤ 1000) := Lib.hid (fun q hq => by have := preL_locs r 0 q hq; omega)
            generalize preL r 0 = Q at *
            obtain ⟨hm1, hm2⟩ := HMAX.out
            have hf1 : decide (b.length < Q.length) = false := decide_eq_false (by omega)
            have hl1 := hHL.out
            rcases Nat.lt_trichotomy k zi with hkz | hkz | hkz
            · have hm3 := hm2 (by omega)
              have hf2 : decide (k < zi) = true := decide_eq_true hkz
              have hf3 : (Q.length == b.length) = false := beq_eq_false_iff_ne.mpr (by omega)
              have hf4 : (k == zi) = false := beq_eq_false_iff_ne.mpr (by omega)
              go_wp2_with fail
              exact ⟨⟨k + 1, hl1, by go_num, HB, HC, HP⟩, meas_lt hl1⟩
            · have hbq := HEQ.out hkz
              subst hbq
              have HBB := Lib.hid ((begL_iff b b).mpr (List.prefix_refl _))
              clear hm2 HEQ HMAX HZ0 HMX
              subst hkz
              have hf2 : decide (k < k) = false := decide_eq_false (by omega)
              have hf4 : (k == k) = true := by simp
              go_wp2_with fail
              have hcc := begins_calls A3 A1 c3 c1 b b HPS.out w2 HQ.out HP.out
              rw [HBB.out] at hcc
              refine hcc.mono ?_
              rintro e w3 ⟨rfl, b1⟩
              replace HB := Aside0.mk (below2 HB.out HB.out.size b1)
              replace HC := Aside0.mk (Kd.C_below HC.out b1)
              replace HP := Aside0.mk (HP.out.below b1)
              replace HQ := Aside0.mk (HQ.out.below b1)
              clear hcc b1
              go_wp2_with fail
              have hcc := begins_calls A1 A3 c1 c3 b b HPS.out w3 HP.out HQ.out
              rw [HBB.out] at hcc
              refine hcc.mono ?_
              rintro e w4 ⟨rfl, b1⟩
              replace HB := Aside0.mk (below2 HB.out HB.out.size b1)
              replace HC := Aside0.mk (Kd.C_below HC.out b1)
              replace HP := Aside0.mk (HP.out.below b1)
              clear hcc b1
              go_wp2_with fail
              exact ⟨⟨k + 1, hl1, by go_num, HB, HC, HP⟩, meas_lt hl1⟩
            · have hf2 : decide (k < zi) = false := decide_eq_false (by omega)
              have hf4 : (k == zi) = false := beq_eq_false_iff_ne.mpr (by omega)
              clear hm2
              go_wp2_with fail
              exact ⟨⟨k + 1, hl1, by go_num, HB, HC, HP⟩, meas_lt hl1⟩
        · obtain rfl : k = l0.length := by omega
          go_wp2_with fail
          refine (live12_calls _).mono ?_
          rintro e wl ⟨rfl, bl⟩
          go_wp2_with fail
          go_ret
          exact ⟨rfl, below2 HB.out HB.out.size bl⟩
end Go.Proofs.Ytmfcbfgijimliaa
end
section
namespace Go.Proofs.Ytmfcbfgijimliaa
open Go.RowKit Go.Proofs.YtmfcbfgijimliaaW.PrintWords
theorem bulk_pos {H : Type} (d : DataW H) : 1 ≤ Rows.uptoBulk d := by
  cases d with
  | lit l => cases l <;> simp [Rows.uptoBulk]
  | nil => simp [Rows.uptoBulk]
  | ptr d => simp [Rows.uptoBulk]
  | slice elems spare => simp [Rows.uptoBulk]
  | agg parts => simp [Rows.uptoBulk]
  | iface t d => simp [Rows.uptoBulk]
  | map entries => simp [Rows.uptoBulk]
  | held h => simp [Rows.uptoBulk]
theorem bulk_part {H : Type} {d : DataW H} {l : List (DataW H)} (h : d ∈ l) : Rows.uptoBulk d ≤ Rows.uptoBulkAll l := by
  induction l with
  | nil => cases h
  | cons x r ih =>
    simp only [Rows.uptoBulkAll]
    rcases List.mem_cons.1 h with e | e
    · subst e
      omega
    · have := ih e
      omega
theorem bulk_len {H : Type} (l : List (DataW H)) : l.length ≤ Rows.uptoBulkAll l := by
  induction l with
  | nil => simp [Rows.uptoBulkAll]
  | cons x r ih =>
    have := bulk_pos x
    simp only [Rows.uptoBulkAll, List.length_cons]
    omega
def OpensB {α : Type} (P : Program) (t : TypeId) (d : Kd α) (q : (H : Type) → α → DataW H → Prop) : Prop :=
  ∀ (H : Type) (enc : TypeId × Value → H) (w : World) (base : Nat) (spare : Nat → Bool) (held : Bool) (fuel : Nat) (cs : List Value) (x : DataW H × List MemPlace),
    DataW.trod enc P w base spare held fuel t cs = some x → ∃ a : α, d.K w a cs ∧ q H a x.1
theorem opensB_string {P : Program} {t : TypeId} (ht : P.underlying t = some .string) : OpensB P t Kd.string (fun _ s D => s.size + 1 ≤ Rows.uptoBulk D) := by
  intro H enc w base spare held fuel cs x h
  obtain ⟨s, rfl, hx, _⟩ := DataW.trod_string ht h
  refine ⟨s, rfl, ?_⟩
  rw [hx]
  simp only [Rows.uptoBulk]
  have e : s.data.toList.length = s.size := by rw [Array.length_toList]; rfl
  omega
theorem opensB_slice {α : Type} [Inhabited α] {P : Program} {t e : TypeId} {d : Kd α} {q : (H : Type) → α → DataW H → Prop} (ht : P.underlying t = some (.slice e)) (hd : d.sz = P.cellsOf e) (h : OpensB P e d q) :
    OpensB P t (Kd.slice e d) (fun H l D => l.length + 1 ≤ Rows.uptoBulk D ∧ ∀ a ∈ l, ∃ D' : DataW H, q H a D' ∧ Rows.uptoBulk D' ≤ Rows.uptoBulk D) := by
  intro H enc w base spare held fuel cs x hx
  rcases Deep.open_slice ht hx with ⟨rfl, rfl⟩ | ⟨a, len, cap, m, n, D, Pl, rfl, _, hl, hcap, hm, rfl, hel⟩
  · exact ⟨[], ⟨none, 0, rfl, Nat.le_refl _, rfl, by simp, fun h0 => absurd h0 (by simp)⟩, by simp [Rows.uptoBulk], fun x hx => by cases hx⟩
  · have hlm : len ≤ m := by rw [hm]; split <;> omega
    have hel' : ∀ i, i < len → ∃ p : α × List Value, w.cells? base (a.add (i * P.cellsOf e)) (P.cellsOf e) = some p.2 ∧ d.K w p.1 p.2 ∧ q H p.1 (D i) := by
      intro i hi
      obtain ⟨cs', hc, ht'⟩ := hel i (by omega)
      obtain ⟨y, hy, hq⟩ := h H enc w base spare held n cs' _ ht'
      exact ⟨(y, cs'), hc, hy, hq⟩
    obtain ⟨f, hf⟩ := Deep.choose_lt hel'
    have hb := bulk_len ((List.range len).map D)
    rw [List.length_map, List.length_range] at hb
    refine ⟨(List.range len).map fun i => (f i).1, ⟨some a, cap, by simp, by simpa using hl, by simp, ?_, fun _ => ⟨a, rfl, ?_⟩⟩, ?_, ?_⟩
    · rw [List.length_map, List.length_range]; unfold maxLen at hcap; omega
    · intro j p hj
      rw [List.getElem?_map] at hj
      have hjl : j < len := by
        rcases Nat.lt_or_ge j len with h1 | h1
        · exact h1
        · rw [List.getElem?_eq_none (by simpa using h1)] at hj; cases hj
      rw [List.getElem?_range hjl] at hj
      simp only [Option.map_some, Option.some.injEq] at hj
      subst hj
      obtain ⟨hc, hK, _⟩ := hf j hjl
      refine ⟨(f j).2, d.K_len hK, hK, fun i u hu => ?_⟩
      have := cells_at hc i u hu
      rw [Deep.add_add] at this
      rw [hd]
      exact this
    · simp only [Rows.uptoBulk, List.length_map, List.length_range]
      omega
    · intro x hx
      rw [List.mem_map] at hx
      obtain ⟨i, hi, rfl⟩ := hx
      refine ⟨D i, (hf i (List.mem_range.1 hi)).2.2, ?_⟩
      have h2 := bulk_part (List.mem_map_of_mem (f := D) hi)
      simp only [Rows.uptoBulk]
      omega
end Go.Proofs.Ytmfcbfgijimliaa
end
