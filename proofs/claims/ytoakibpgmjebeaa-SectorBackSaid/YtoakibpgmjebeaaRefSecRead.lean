/- The document's reading of a sector, told as plain functions, is the program's. -/
import Derived.Test.YtoakibpgmjebeaaSecRead
import Derived.Test.YtoakibpgmjebeaaTakeFn
import Derived.Test.YtoakibpgmjebeaaRefReader
import Derived.Test.YtoakibpgmjebeaaRefSecWrite
import Derived.Laws.Tables
import Derived.Laws.Rows
namespace Go.Proofs.Ytoakibpgmjebeaa
open Go.RowKit Q Go.Proofs.YtoakibpgmjebeaaW.PrintWords Go.Proofs.YtoakibpgmjebeaaW.PrintLast Go.Proofs.YtoakibpgmjebeaaW.PrintMore
def rtx (s : List UInt8 × Int) : List UInt8 × List UInt8 × Int := if s.2 = 0 then tkT s.1 else ([], [], s.2)
def rend (s : List UInt8 × Int) : Int := if s.2 = 0 then (if s.1 = [] then 0 else 4) else s.2
theorem rrn_f (s : List UInt8 × Int) (h : s.1.length ≤ 140737488355328) : sluicegateref05_Reader_Number.f 20 (B s.1) s.2 = some (((nx s).1 : Int), B (nx s).2.1, (nx s).2.2) := by
  obtain ⟨l, e⟩ := s
  unfold nx sluicegateref05_Reader_Number.f
  simp only
  by_cases he : e = 0
  · rw [if_pos he, if_pos he]
    exact take_f l 20 h (Nat.le_refl _)
  · rw [if_neg he, if_neg he]
    rfl
theorem rrt_f (s : List UInt8 × Int) (h : s.1.length ≤ 140737488355328) : sluicegateref05_Reader_Text.f 20 (B s.1) s.2 = some (B (rtx s).1, B (rtx s).2.1, (rtx s).2.2) := by
  unfold sluicegateref05_Reader_Text.f
  rw [rrn_f s h, Option.bind_some]
  obtain ⟨l, e⟩ := s
  unfold nx rtx
  simp only
  by_cases he : e = 0
  · rw [if_pos he, if_pos he]
    unfold tkT
    generalize tk l 0 0 = t
    obtain ⟨v, r, e2⟩ := t
    simp only
    by_cases h2 : e2 = 0
    · have h2' : ¬ (e2 ≠ 0) := fun h => h h2
      rw [if_pos h2, if_neg h2']
      by_cases h3 : r.length < v
      · have h3' : (v : Int) > ((B r).size : Int) := by rw [B_size]; omega
        rw [if_pos h3', if_pos h3]
        rfl
      · have h3' : ¬ (v : Int) > ((B r).size : Int) := by rw [B_size]; omega
        have h3'' : 0 ≤ (v : Int) := by omega
        rw [if_neg h3', if_neg h3, if_pos h3'', B_extract, B_extract, Int.toNat_natCast, List.drop_zero, B_size]
        rw [List.take_of_length_le (l := List.drop _ _) (by rw [List.length_drop]; exact Nat.le_refl _)]
        rfl
    · rw [if_neg h2, if_pos h2]
      rfl
  · rw [if_neg he, if_neg he]
    simp only
    rw [if_neg he]
    rfl
theorem rre_f (s : List UInt8 × Int) : sluicegateref05_Reader_End.f (B s.1) s.2 = some (rend s, B s.1, rend s) := by
  obtain ⟨l, e⟩ := s
  unfold sluicegateref05_Reader_End.f rend
  simp only
  rw [B_toList]
  by_cases he : e = 0
  · rw [if_pos he, if_pos he]
    by_cases h : l = []
    · rw [if_pos h, if_pos h, he]
    · rw [if_neg h, if_neg h]
  · rw [if_neg he, if_neg he]
theorem rtx_1 (s : List UInt8 × Int) : (rtx s).1 = (tx s).1 := by
  unfold rtx tx
  split <;> rfl
theorem rend_iff (s : List UInt8 × Int) : rend (rtx s).2 = 0 ↔ endE (tx s).2 = 0 := by
  unfold rtx tx
  by_cases h : s.2 = 0
  · rw [if_pos h, if_pos h]
    unfold rend endE
    generalize (tkT s.1).2 = t
    by_cases h1 : t.2 = 0
    · rw [if_pos h1]
      by_cases h2 : t.1 = []
      · rw [if_pos h2, if_pos h2, h1]
      · rw [if_neg h2, if_neg h2]
    · rw [if_neg h1]
      by_cases h2 : t.1 = []
      · rw [if_pos h2]
      · rw [if_neg h2]
        exact ⟨fun h => absurd h h1, fun h => absurd h (by decide)⟩
  · rw [if_neg h, if_neg h]
    unfold rend endE
    simp only
    rw [if_neg h]
    by_cases h2 : s.1 = []
    · rw [if_pos h2]
    · rw [if_neg h2]
      exact ⟨fun h' => absurd h' h, fun h => absurd h (by decide)⟩
theorem nx_inv (s : List UInt8 × Int) (h : (nx s).2.2 = 0) : s.2 = 0 ∧ s.1 = enc (nx s).1 ++ (nx s).2.1 := by
  unfold nx at h ⊢
  by_cases hs : s.2 = 0
  · rw [if_pos hs] at h ⊢
    refine ⟨hs, (tk_inv0 (v := (tk s.1 0 0).1) (r := (tk s.1 0 0).2.1) ?_).1⟩
    rw [← h]
  · rw [if_neg hs] at h
    exact absurd h hs
theorem tx_inv (s : List UInt8 × Int) (h : endE (tx s).2 = 0) : s.2 = 0 ∧ s.1 = txt (tx s).1 := by
  unfold endE at h
  by_cases h1 : (tx s).2.1 = []
  · rw [if_pos h1] at h
    unfold tx at h h1 ⊢
    by_cases hs : s.2 = 0
    · rw [if_pos hs] at h h1 ⊢
      refine ⟨hs, ?_⟩
      have := (tkT_inv (l := s.1) (s := (tkT s.1).1) (r := []) (by rw [← h1, ← h])).1
      rw [List.append_nil] at this
      exact this
    · rw [if_neg hs] at h
      exact absurd h hs
  · rw [if_neg h1] at h
    exact absurd h (by decide)
theorem five_inv (l : List UInt8) (h : endE (tx (rdn l 5)).2 = 0) : [83, 71] ++ l = secT (val l 0) (val l 1) (val l 2) (val l 3) (val l 4) (tx (rdn l 5)).1 := by
  obtain ⟨h5, e5⟩ := tx_inv _ h
  obtain ⟨h4, e4⟩ := nx_inv (rdn l 4) h5
  obtain ⟨h3, e3⟩ := nx_inv (rdn l 3) h4
  obtain ⟨h2, e2⟩ := nx_inv (rdn l 2) h3
  obtain ⟨h1, e1⟩ := nx_inv (rdn l 1) h2
  obtain ⟨_, e0⟩ := nx_inv (rdn l 0) h1
  have e4 : (rdn l 4).1 = enc (val l 4) ++ (rdn l 5).1 := e4
  have e3 : (rdn l 3).1 = enc (val l 3) ++ (rdn l 4).1 := e3
  have e2 : (rdn l 2).1 = enc (val l 2) ++ (rdn l 3).1 := e2
  have e1 : (rdn l 1).1 = enc (val l 1) ++ (rdn l 2).1 := e1
  have e0 : l = enc (val l 0) ++ (rdn l 1).1 := e0
  rw [e5] at e4
  rw [e4] at e3
  rw [e3] at e2
  rw [e2] at e1
  rw [e1] at e0
  unfold secT
  simp only [List.append_assoc]
  rw [← e0]
theorem short_read (m u : List UInt8) (ho : openL m = (B u, 0)) (h : u.length < 2) : secR m = (0, 0, 0, 0, 0, B [], 4) := by
  have hd : (B u).data.toList = u := rfl
  unfold secR
  rw [ho]
  simp only [ne_eq, not_true_eq_false, if_false, hd]
  rw [if_neg]
  intro hh
  have := hh.1
  unfold cutp at this
  split at this
  · rename_i h2
    have := congrArg List.length h2
    rw [List.length_take] at this
    simp only [List.length_cons, List.length_nil] at this
    omega
  · cases this
theorem ref_read (m u : List UInt8) (ho : openL m = (B u, 0)) (h : 2 ≤ u.length) (l : List UInt8) (hl : l = u.drop 2) : secR m = if rend (rtx (rdn l 5)).2 = 0 ∧ (secW (val l 0) (val l 1) (val l 2) (val l 3) (val l 4) (B (rtx (rdn l 5)).1)).2 = 0 ∧ (secW (val l 0) (val l 1) (val l 2) (val l 3) (val l 4) (B (rtx (rdn l 5)).1)).1 = B m then ((val l 0 : Int), (val l 1 : Int), (val l 2 : Int), (val l 3 : Int), (val l 4 : Int), B (rtx (rdn l 5)).1, 0) else (0, 0, 0, 0, 0, B [], 4) := by
  have hm : m = sealL u := by
    rcases openL_cases m with ⟨_, h⟩ | ⟨_, _, h⟩ | ⟨u', h1, h2⟩
    · rw [ho] at h; cases h
    · rw [ho] at h; cases h
    · rw [ho] at h2
      have : u = u' := B_inj (congrArg Prod.fst h2)
      rw [h1, this]
  have hd : (B u).data.toList = u := rfl
  rw [rtx_1]
  have hW : ∀ x : List UInt8, (secW (val l 0) (val l 1) (val l 2) (val l 3) (val l 4) (B x)).2 = 0 ↔ chk (val l 0) (val l 1) (val l 2) (val l 3) (val l 4) x.length = 0 := by
    intro x
    unfold secW
    rw [B_size]
    by_cases hc : chk (val l 0) (val l 1) (val l 2) (val l 3) (val l 4) x.length = 0
    · rw [if_pos hc]; exact ⟨fun _ => hc, fun _ => rfl⟩
    · rw [if_neg hc]
  have hW1 : ∀ x : List UInt8, chk (val l 0) (val l 1) (val l 2) (val l 3) (val l 4) x.length = 0 → (secW (val l 0) (val l 1) (val l 2) (val l 3) (val l 4) (B x)).1 = B (sealL (secT (val l 0) (val l 1) (val l 2) (val l 3) (val l 4) x)) := by
    intro x hc
    unfold secW
    rw [B_size, if_pos hc]
    simp only [Int.toNat_natCast]
    rfl
  unfold secR
  rw [ho]
  simp only [ne_eq, not_true_eq_false, if_false, hd]
  by_cases ht : u.take 2 = [83, 71]
  · have hu : u = [83, 71] ++ l := by rw [← ht, hl, List.take_append_drop]
    have hcut : cutp u = (l, true) := by
      unfold cutp
      rw [if_pos ht, hl]
    rw [hcut]
    simp only [true_and]
    have : (endE (tx (rdn l 5)).2 = 0 ∧ chk (val l 0) (val l 1) (val l 2) (val l 3) (val l 4) (tx (rdn l 5)).1.length = 0) ↔ (rend (rtx (rdn l 5)).2 = 0 ∧ (secW (val l 0) (val l 1) (val l 2) (val l 3) (val l 4) (B (tx (rdn l 5)).1)).2 = 0 ∧ (secW (val l 0) (val l 1) (val l 2) (val l 3) (val l 4) (B (tx (rdn l 5)).1)).1 = B m) := by
      rw [rend_iff, hW]
      constructor
      · rintro ⟨h1, h2⟩
        refine ⟨h1, h2, ?_⟩
        rw [hW1 _ h2, hm, hu, five_inv l h1]
      · rintro ⟨h1, h2, _⟩
        exact ⟨h1, h2⟩
    by_cases hh : endE (tx (rdn l 5)).2 = 0 ∧ chk (val l 0) (val l 1) (val l 2) (val l 3) (val l 4) (tx (rdn l 5)).1.length = 0
    · rw [if_pos hh, if_pos (this.1 hh)]
    · rw [if_neg hh, if_neg (fun h => hh (this.2 h))]
  · have hcut : cutp u = (u, false) := if_neg ht
    rw [hcut, if_neg (by rintro ⟨h, _⟩; cases h), if_neg]
    rintro ⟨h1, h2, h3⟩
    rw [hW1 _ ((hW _).1 h2), hm] at h3
    have h4 := B_inj h3
    have h5 : secT (val l 0) (val l 1) (val l 2) (val l 3) (val l 4) (tx (rdn l 5)).1 = u := by
      rw [← take_seal (secT _ _ _ _ _ _), h4, take_seal]
    apply ht
    rw [← h5]
    rfl
end Go.Proofs.Ytoakibpgmjebeaa
/-! sluicegateref07.Read: its walk. -/
namespace Go.Proofs.Ytoakibpgmjebeaa
open Go.RowKit Q Go.Proofs.YtoakibpgmjebeaaW.PrintWords Go.Proofs.YtoakibpgmjebeaaW.PrintLast Go.Proofs.YtoakibpgmjebeaaW.PrintMore
set_option maxRecDepth 100000 in
set_option maxHeartbeats 2000000 in
theorem rread_calls (m : List UInt8) (hm : m.length ≤ 140737488355328) (w : World) : Calls Try.prog 15 #[.string (B m)] w fun e w' => e = .returned (.tuple #[.agg #[.int .i64 (secR m).1, .int .i64 (secR m).2.1, .int .i64 (secR m).2.2.1, .int .i64 (secR m).2.2.2.1, .int .i64 (secR m).2.2.2.2.1, .string (secR m).2.2.2.2.2.1], .int .i64 (secR m).2.2.2.2.2.2]) ∧ Below w.heap.size w w' := by
  have hu25 := Try.underlying25
  have hu23 := Try.underlying23
  have HO := Lib.hid (ropen_f m hm)
  have HR : Aside0 (Blk (w.alloc (.cells #[.int .i64 0, .int .i64 0, .int .i64 0, .int .i64 0, .int .i64 0, .string ⟨#[]⟩] 25)) w.heap.size #[.int .i64 0, .int .i64 0, .int .i64 0, .int .i64 0, .int .i64 0, .string ⟨#[]⟩] 25) := ⟨Blk.new w _ _⟩
  have HB : Aside0 (Below w.heap.size w (w.alloc (.cells #[.int .i64 0, .int .i64 0, .int .i64 0, .int .i64 0, .int .i64 0, .string ⟨#[]⟩] 25))) := ⟨(Below.refl _ _).alloc (Nat.le_refl _) _⟩
  go_enter Try.func15, Try.ntmps15
  go_wp2_with fail
  refine Calls.mono (sluicegateref04_Open.calls _ (openL m).1 (openL m).2 _ HO.out) ?_
  rintro e w1 ⟨rfl, b1⟩
  have HR := Aside0.mk (HR.out.keep b1)
  have HB := Aside0.mk (below2 HB.out HB.out.size b1)
  clear b1 HO
  obtain ⟨o1, e1, ho⟩ : ∃ o1 e1, openL m = (o1, e1) := ⟨_, _, rfl⟩
  rw [ho]
  by_cases he : e1 = 0
  · subst he
    obtain ⟨u, rfl⟩ := exB o1
    by_cases hu2 : u.length < 2
    · have HRES := Lib.hid (short_read m u ho hu2)
      have hs : (B u).size < 2 := by rw [B_size]; exact hu2
      clear ho hu2
      go_wp2_with (refine gate_ (.store 25 (.tmp 2) (.tmp 22)) rfl ?_; refine wpList_plain rfl (fun K hK => ?_); refine wp_store_row 25 (.tmp 2) (.tmp 22) rfl w.heap.size #[.int .i64 0, .int .i64 0, .int .i64 0, .int .i64 0, .int .i64 0, .string ⟨#[]⟩] rfl rfl 25 #[.int .i64 0, .int .i64 0, .int .i64 0, .int .i64 0, .int .i64 0, .string ⟨#[]⟩] HR.out (by kernel_rfl) rfl (one6 _ _ _ _ _ _) (hK _ _ ?_); clear hK K; simp only [Act.put])
      have HF := Aside0.mk (show Blk (w1.setRow w.heap.size #[.int .i64 0, .int .i64 0, .int .i64 0, .int .i64 0, .int .i64 0, .string ⟨#[]⟩]) w.heap.size #[.int .i64 0, .int .i64 0, .int .i64 0, .int .i64 0, .int .i64 0, .string ⟨#[]⟩] 25 from setRow_heap w1 _ _ _ _ _ HR.out)
      have HB := Aside0.mk (below_setRow' HB.out (Nat.le_refl _) #[.int .i64 0, .int .i64 0, .int .i64 0, .int .i64 0, .int .i64 0, .string ⟨#[]⟩])
      generalize w1.setRow w.heap.size #[.int .i64 0, .int .i64 0, .int .i64 0, .int .i64 0, .int .i64 0, .string ⟨#[]⟩] = wf at *
      go_wp2_with fail
      obtain ⟨r0, r1, r2, r3, r4, r5⟩ := six HF.out
      exact bodyPost_ret (v := .tuple #[.agg #[.int .i64 0, .int .i64 0, .int .i64 0, .int .i64 0, .int .i64 0, .string ⟨#[]⟩], .int .i64 4]) (by simp [results, Try.results15, go_sem, r0, r1, r2, r3, r4, r5]) rfl ⟨by rw [HRES.out]; rfl, HB.out⟩
    · have HM := Lib.hid (ref_read m u ho (by omega))
      have hs : ¬ (B u).size < 2 := by rw [B_size]; exact hu2
      have hs1 : 2 ≤ (B u).size := by omega
      have hul : u.length ≤ m.length := by
        rcases openL_cases m with ⟨_, h⟩ | ⟨_, _, h⟩ | ⟨u', h1, h2⟩
        · rw [ho] at h; cases h
        · rw [ho] at h; cases h
        · rw [ho] at h2
          have : u = u' := B_inj (congrArg Prod.fst h2)
          rw [h1, sealL_len, this]
          exact Nat.le_add_right _ _
      obtain ⟨l, hl⟩ : ∃ l, l = u.drop 2 := ⟨_, rfl⟩
      have HRES := Lib.hid (HM.out l hl)
      have HX : Hid ((B u).extract 2 (B u).size = B l) := Lib.hid (by
        rw [B_extract, hl, B_size, List.take_of_length_le (by rw [List.length_drop]; exact Nat.le_refl _)])
      have hll : l.length ≤ 140737488355328 := by rw [hl, List.length_drop]; omega
      clear ho hl HM
      have hRlt := HR.out.lt
      go_wp2_with (refine gate_ (.store 25 (.tmp 7) (.tmp 27)) rfl ?_; refine wpList_plain rfl (fun K hK => ?_); refine wp_store_row 25 (.tmp 7) (.tmp 27) rfl (w1.heap.size + 1) #[.int .i64 0, .int .i64 0, .int .i64 0, .int .i64 0, .int .i64 0, .string ⟨#[]⟩] rfl rfl 25 #[.int .i64 0, .int .i64 0, .int .i64 0, .int .i64 0, .int .i64 0, .string ⟨#[]⟩] (Blk.new _ _ _) (by kernel_rfl) rfl (one6 _ _ _ _ _ _) (hK _ _ ?_); clear hK K; simp only [Act.put])
      rw [HX.out]
      have HI : Aside0 (IsS68 w ((w1.alloc (.cells #[.string (B l), .int .i64 0] 68)).alloc (.cells #[.int .i64 0, .int .i64 0, .int .i64 0, .int .i64 0, .int .i64 0, .string ⟨#[]⟩] 25)) w1.heap.size (B (rdn l 0).1) (rdn l 0).2) := ⟨(Blk.new w1 _ _).alloc _, HB.out.size⟩
      have HR := Aside0.mk ((HR.out.alloc (.cells #[.string (B l), .int .i64 0] 68)).alloc (.cells #[.int .i64 0, .int .i64 0, .int .i64 0, .int .i64 0, .int .i64 0, .string ⟨#[]⟩] 25))
      have HH : Aside0 (Blk ((w1.alloc (.cells #[.string (B l), .int .i64 0] 68)).alloc (.cells #[.int .i64 0, .int .i64 0, .int .i64 0, .int .i64 0, .int .i64 0, .string ⟨#[]⟩] 25)) (w1.heap.size + 1) #[.int .i64 0, .int .i64 0, .int .i64 0, .int .i64 0, .int .i64 0, .string ⟨#[]⟩] 25) := ⟨by
        have := Blk.new (w1.alloc (.cells #[.string (B l), .int .i64 0] 68)) #[.int .i64 0, .int .i64 0, .int .i64 0, .int .i64 0, .int .i64 0, .string ⟨#[]⟩] 25
        simp only [World.size_alloc] at this
        exact this⟩
      have HB := Aside0.mk (below_alloc (below_alloc HB.out (.cells #[.string (B l), .int .i64 0] 68)) (.cells #[.int .i64 0, .int .i64 0, .int .i64 0, .int .i64 0, .int .i64 0, .string ⟨#[]⟩] 25))
      obtain ⟨g, hg⟩ : ∃ g, g = w1.heap.size := ⟨_, rfl⟩
      rw [← hg] at HI HH
      have hgg : w.heap.size < g := by omega
      generalize (w1.alloc (.cells #[.string (B l), .int .i64 0] 68)).alloc (.cells #[.int .i64 0, .int .i64 0, .int .i64 0, .int .i64 0, .int .i64 0, .string ⟨#[]⟩] 25) = wr at *
      rw [← hg]
      clear hg hRlt HX
      have HN := Lib.hid (rrn_f (rdn l 0) (Nat.le_trans (rdn_le l 0) hll))
      refine Calls.mono (sluicegateref05_Reader_Number.calls 20 g _ _ _ _ _ w wr HI.out HB.out HN.out) ?_
      clear HN
      rintro e w4 ⟨rfl, hI4, hB4, hK4⟩
      have HI := Aside0.mk (show IsS68 w w4 g (B (rdn l 1).1) (rdn l 1).2 from hI4)
      have HB := Aside0.mk hB4
      have HH := Aside0.mk (HH.out.but hK4 (by omega))
      have HR := Aside0.mk (HR.out.but hK4 (by omega))
      clear hI4 hB4 hK4
      have HV : Hid (((nx (rdn l 0)).1 : Int) = (val l 0 : Int)) := Lib.hid rfl
      rw [HV.out]
      clear HV
      have hc := HH.out.cell (i := 0) (v := .int .i64 0) rfl
      have hf := HH.out.free 0
      go_wp2_with fail
      have HI := Aside0.mk (show IsS68 w (w4.setCell ⟨g + 1, 0, none⟩ (.int .i64 (val l 0 : Int))) g (B (rdn l 1).1) (rdn l 1).2 from ⟨(Below.heap_setCell _ _ _ _ (by show g ≠ g + 1; omega)).trans HI.out.1, HI.out.2⟩)
      have HH := Aside0.mk (show Blk (w4.setCell ⟨g + 1, 0, none⟩ (.int .i64 (val l 0 : Int))) (g + 1) #[.int .i64 (val l 0 : Int), .int .i64 0, .int .i64 0, .int .i64 0, .int .i64 0, .string ⟨#[]⟩] 25 from HH.out.set 0 (.int .i64 (val l 0 : Int)))
      have HR := Aside0.mk (HR.out.other (g' := g + 1) (by omega) 0 (.int .i64 (val l 0 : Int)))
      have HB := Aside0.mk (HB.out.setCell (p := ⟨g + 1, 0, none⟩) (by show w.heap.size ≤ g + 1; omega) (.int .i64 (val l 0 : Int)))
      clear hc hf
      generalize w4.setCell ⟨g + 1, 0, none⟩ (.int .i64 (val l 0 : Int)) = wr at *
      have HN := Lib.hid (rrn_f (rdn l 1) (Nat.le_trans (rdn_le l 1) hll))
      refine Calls.mono (sluicegateref05_Reader_Number.calls 20 g _ _ _ _ _ w wr HI.out HB.out HN.out) ?_
      clear HN
      rintro e w4 ⟨rfl, hI4, hB4, hK4⟩
      have HI := Aside0.mk (show IsS68 w w4 g (B (rdn l 2).1) (rdn l 2).2 from hI4)
      have HB := Aside0.mk hB4
      have HH := Aside0.mk (HH.out.but hK4 (by omega))
      have HR := Aside0.mk (HR.out.but hK4 (by omega))
      clear hI4 hB4 hK4
      have HV : Hid (((nx (rdn l 1)).1 : Int) = (val l 1 : Int)) := Lib.hid rfl
      rw [HV.out]
      clear HV
      have hc := HH.out.cell (i := 1) (v := .int .i64 0) rfl
      have hf := HH.out.free 1
      go_wp2_with fail
      have HI := Aside0.mk (show IsS68 w (w4.setCell ⟨g + 1, 1, none⟩ (.int .i64 (val l 1 : Int))) g (B (rdn l 2).1) (rdn l 2).2 from ⟨(Below.heap_setCell _ _ _ _ (by show g ≠ g + 1; omega)).trans HI.out.1, HI.out.2⟩)
      have HH := Aside0.mk (show Blk (w4.setCell ⟨g + 1, 1, none⟩ (.int .i64 (val l 1 : Int))) (g + 1) #[.int .i64 (val l 0 : Int), .int .i64 (val l 1 : Int), .int .i64 0, .int .i64 0, .int .i64 0, .string ⟨#[]⟩] 25 from HH.out.set 1 (.int .i64 (val l 1 : Int)))
      have HR := Aside0.mk (HR.out.other (g' := g + 1) (by omega) 1 (.int .i64 (val l 1 : Int)))
      have HB := Aside0.mk (HB.out.setCell (p := ⟨g + 1, 1, none⟩) (by show w.heap.size ≤ g + 1; omega) (.int .i64 (val l 1 : Int)))
      clear hc hf
      generalize w4.setCell ⟨g + 1, 1, none⟩ (.int .i64 (val l 1 : Int)) = wr at *
      have HN := Lib.hid (rrn_f (rdn l 2) (Nat.le_trans (rdn_le l 2) hll))
      refine Calls.mono (sluicegateref05_Reader_Number.calls 20 g _ _ _ _ _ w wr HI.out HB.out HN.out) ?_
      clear HN
      rintro e w4 ⟨rfl, hI4, hB4, hK4⟩
      have HI := Aside0.mk (show IsS68 w w4 g (B (rdn l 3).1) (rdn l 3).2 from hI4)
      have HB := Aside0.mk hB4
      have HH := Aside0.mk (HH.out.but hK4 (by omega))
      have HR := Aside0.mk (HR.out.but hK4 (by omega))
      clear hI4 hB4 hK4
      have HV : Hid (((nx (rdn l 2)).1 : Int) = (val l 2 : Int)) := Lib.hid rfl
      rw [HV.out]
      clear HV
      have hc := HH.out.cell (i := 2) (v := .int .i64 0) rfl
      have hf := HH.out.free 2
      go_wp2_with fail
      have HI := Aside0.mk (show IsS68 w (w4.setCell ⟨g + 1, 2, none⟩ (.int .i64 (val l 2 : Int))) g (B (rdn l 3).1) (rdn l 3).2 from ⟨(Below.heap_setCell _ _ _ _ (by show g ≠ g + 1; omega)).trans HI.out.1, HI.out.2⟩)
      have HH := Aside0.mk (show Blk (w4.setCell ⟨g + 1, 2, none⟩ (.int .i64 (val l 2 : Int))) (g + 1) #[.int .i64 (val l 0 : Int), .int .i64 (val l 1 : Int), .int .i64 (val l 2 : Int), .int .i64 0, .int .i64 0, .string ⟨#[]⟩] 25 from HH.out.set 2 (.int .i64 (val l 2 : Int)))
      have HR := Aside0.mk (HR.out.other (g' := g + 1) (by omega) 2 (.int .i64 (val l 2 : Int)))
      have HB := Aside0.mk (HB.out.setCell (p := ⟨g + 1, 2, none⟩) (by show w.heap.size ≤ g + 1; omega) (.int .i64 (val l 2 : Int)))
      clear hc hf
      generalize w4.setCell ⟨g + 1, 2, none⟩ (.int .i64 (val l 2 : Int)) = wr at *
      have HN := Lib.hid (rrn_f (rdn l 3) (Nat.le_trans (rdn_le l 3) hll))
      refine Calls.mono (sluicegateref05_Reader_Number.calls 20 g _ _ _ _ _ w wr HI.out HB.out HN.out) ?_
      clear HN
      rintro e w4 ⟨rfl, hI4, hB4, hK4⟩
      have HI := Aside0.mk (show IsS68 w w4 g (B (rdn l 4).1) (rdn l 4).2 from hI4)
      have HB := Aside0.mk hB4
      have HH := Aside0.mk (HH.out.but hK4 (by omega))
      have HR := Aside0.mk (HR.out.but hK4 (by omega))
      clear hI4 hB4 hK4
      have HV : Hid (((nx (rdn l 3)).1 : Int) = (val l 3 : Int)) := Lib.hid rfl
      rw [HV.out]
      clear HV
      have hc := HH.out.cell (i := 3) (v := .int .i64 0) rfl
      have hf := HH.out.free 3
      go_wp2_with fail
      have HI := Aside0.mk (show IsS68 w (w4.setCell ⟨g + 1, 3, none⟩ (.int .i64 (val l 3 : Int))) g (B (rdn l 4).1) (rdn l 4).2 from ⟨(Below.heap_setCell _ _ _ _ (by show g ≠ g + 1; omega)).trans HI.out.1, HI.out.2⟩)
      have HH := Aside0.mk (show Blk (w4.setCell ⟨g + 1, 3, none⟩ (.int .i64 (val l 3 : Int))) (g + 1) #[.int .i64 (val l 0 : Int), .int .i64 (val l 1 : Int), .int .i64 (val l 2 : Int), .int .i64 (val l 3 : Int), .int .i64 0, .string ⟨#[]⟩] 25 from HH.out.set 3 (.int .i64 (val l 3 : Int)))
      have HR := Aside0.mk (HR.out.other (g' := g + 1) (by omega) 3 (.int .i64 (val l 3 : Int)))
      have HB := Aside0.mk (HB.out.setCell (p := ⟨g + 1, 3, none⟩) (by show w.heap.size ≤ g + 1; omega) (.int .i64 (val l 3 : Int)))
      clear hc hf
      generalize w4.setCell ⟨g + 1, 3, none⟩ (.int .i64 (val l 3 : Int)) = wr at *
      have HN := Lib.hid (rrn_f (rdn l 4) (Nat.le_trans (rdn_le l 4) hll))
      refine Calls.mono (sluicegateref05_Reader_Number.calls 20 g _ _ _ _ _ w wr HI.out HB.out HN.out) ?_
      clear HN
      rintro e w4 ⟨rfl, hI4, hB4, hK4⟩
      have HI := Aside0.mk (show IsS68 w w4 g (B (rdn l 5).1) (rdn l 5).2 from hI4)
      have HB := Aside0.mk hB4
      have HH := Aside0.mk (HH.out.but hK4 (by omega))
      have HR := Aside0.mk (HR.out.but hK4 (by omega))
      clear hI4 hB4 hK4
      have HV : Hid (((nx (rdn l 4)).1 : Int) = (val l 4 : Int)) := Lib.hid rfl
      rw [HV.out]
      clear HV
      have hc := HH.out.cell (i := 4) (v := .int .i64 0) rfl
      have hf := HH.out.free 4
      go_wp2_with fail
      have HI := Aside0.mk (show IsS68 w (w4.setCell ⟨g + 1, 4, none⟩ (.int .i64 (val l 4 : Int))) g (B (rdn l 5).1) (rdn l 5).2 from ⟨(Below.heap_setCell _ _ _ _ (by show g ≠ g + 1; omega)).trans HI.out.1, HI.out.2⟩)
      have HH := Aside0.mk (show Blk (w4.setCell ⟨g + 1, 4, none⟩ (.int .i64 (val l 4 : Int))) (g + 1) #[.int .i64 (val l 0 : Int), .int .i64 (val l 1 : Int), .int .i64 (val l 2 : Int), .int .i64 (val l 3 : Int), .int .i64 (val l 4 : Int), .string ⟨#[]⟩] 25 from HH.out.set 4 (.int .i64 (val l 4 : Int)))
      have HR := Aside0.mk (HR.out.other (g' := g + 1) (by omega) 4 (.int .i64 (val l 4 : Int)))
      have HB := Aside0.mk (HB.out.setCell (p := ⟨g + 1, 4, none⟩) (by show w.heap.size ≤ g + 1; omega) (.int .i64 (val l 4 : Int)))
      clear hc hf
      generalize w4.setCell ⟨g + 1, 4, none⟩ (.int .i64 (val l 4 : Int)) = wr at *
      have HX := Lib.hid (rrt_f (rdn l 5) (Nat.le_trans (rdn_le l 5) hll))
      refine Calls.mono (sluicegateref05_Reader_Text.calls 20 g _ _ _ _ _ w wr HI.out HB.out HX.out) ?_
      clear HX
      rintro e w4 ⟨rfl, hI4, hB4, hK4⟩
      have HI := Aside0.mk hI4
      have HB := Aside0.mk hB4
      have HH := Aside0.mk (HH.out.but hK4 (by omega))
      have HR := Aside0.mk (HR.out.but hK4 (by omega))
      clear hI4 hB4 hK4
      obtain ⟨x, s5, hx⟩ : ∃ x s5, rtx (rdn l 5) = (x, s5) := ⟨_, _, rfl⟩
      rw [hx] at HI HRES ⊢
      clear hx
      have hc := HH.out.cell (i := 5) (v := .string ⟨#[]⟩) rfl
      have hf := HH.out.free 5
      have HI := Aside0.mk (show IsS68 w (w4.setCell ⟨g + 1, 5, none⟩ (.string (B x))) g (B s5.1) s5.2 from ⟨(Below.heap_setCell _ _ _ _ (by show g ≠ g + 1; omega)).trans HI.out.1, HI.out.2⟩)
      have HH := Aside0.mk (show Blk (w4.setCell ⟨g + 1, 5, none⟩ (.string (B x))) (g + 1) #[.int .i64 (val l 0 : Int), .int .i64 (val l 1 : Int), .int .i64 (val l 2 : Int), .int .i64 (val l 3 : Int), .int .i64 (val l 4 : Int), .string (B x)] 25 from HH.out.set 5 (.string (B x)))
      have HR := Aside0.mk (HR.out.other (g' := g + 1) (by omega) 5 (.string (B x)))
      have HB := Aside0.mk (HB.out.setCell (p := ⟨g + 1, 5, none⟩) (by show w.heap.size ≤ g + 1; omega) (.string (B x)))
      obtain ⟨c0, c1, c2, c3, c4, c5⟩ := six HH.out
      go_wp2_with fail
      have hHlt := HH.out.lt
      have hRlt := HR.out.lt
      generalize w4.setCell ⟨g + 1, 5, none⟩ (.string (B x)) = wr at *
      obtain ⟨y1, y2, hy⟩ : ∃ y1 y2, secW (val l 0) (val l 1) (val l 2) (val l 3) (val l 4) (B x) = (y1, y2) := ⟨_, _, rfl⟩
      rw [hy] at HRES
      refine Calls.mono (rwrite_calls (val l 0) (val l 1) (val l 2) (val l 3) (val l 4) (B x) wr) ?_
      rintro e w6 ⟨rfl, b6⟩
      rw [hy]
      clear hy
      have HI := Aside0.mk (HI.out.below b6)
      have HH := Aside0.mk (HH.out.keep b6)
      have HR := Aside0.mk (HR.out.keep b6)
      have HB := Aside0.mk (below2 HB.out HB.out.size b6)
      clear b6 c0 c1 c2 c3 c4 c5 hRlt hHlt hc hf
      go_wp2_with fail
      refine Calls.mono (sluicegateref05_Reader_End.calls g _ _ _ _ _ w w6 HI.out HB.out (rre_f s5)) ?_
      rintro e w7 ⟨rfl, hI7, hB7, hK7⟩
      have HB := Aside0.mk hB7
      have HH := Aside0.mk (HH.out.but hK7 (by omega))
      have HR := Aside0.mk (HR.out.but hK7 (by omega))
      clear hI7 hB7 hK7 HI
      generalize rend s5 = z at *
      obtain ⟨c0, c1, c2, c3, c4, c5⟩ := six HH.out
      by_cases hz : z = 0
      · subst hz
        by_cases hy2 : y2 = 0
        · subst hy2
          by_cases hy1 : y1 = B m
          · subst hy1
            replace HRES := Lib.hid (HRES.out.trans (if_pos ⟨rfl, rfl, rfl⟩))
            have t0 : ((B m).toList == (B m).toList) = true := beq_self_eq_true _
            go_wp2_with (refine gate_ (.store 25 (.tmp 2) (.tmp 66)) rfl ?_; refine wpList_plain rfl (fun K hK => ?_); refine wp_store_row 25 (.tmp 2) (.tmp 66) rfl w.heap.size #[.int .i64 (val l 0 : Int), .int .i64 (val l 1 : Int), .int .i64 (val l 2 : Int), .int .i64 (val l 3 : Int), .int .i64 (val l 4 : Int), .string (B x)] rfl rfl 25 #[.int .i64 0, .int .i64 0, .int .i64 0, .int .i64 0, .int .i64 0, .string ⟨#[]⟩] HR.out (by kernel_rfl) rfl (one6 _ _ _ _ _ _) (hK _ _ ?_); clear hK K; simp only [Act.put])
            have HF := Aside0.mk (show Blk (w7.setRow w.heap.size #[.int .i64 (val l 0 : Int), .int .i64 (val l 1 : Int), .int .i64 (val l 2 : Int), .int .i64 (val l 3 : Int), .int .i64 (val l 4 : Int), .string (B x)]) w.heap.size #[.int .i64 (val l 0 : Int), .int .i64 (val l 1 : Int), .int .i64 (val l 2 : Int), .int .i64 (val l 3 : Int), .int .i64 (val l 4 : Int), .string (B x)] 25 from setRow_heap w7 _ _ _ _ _ HR.out)
            have HB := Aside0.mk (below_setRow' HB.out (Nat.le_refl _) #[.int .i64 (val l 0 : Int), .int .i64 (val l 1 : Int), .int .i64 (val l 2 : Int), .int .i64 (val l 3 : Int), .int .i64 (val l 4 : Int), .string (B x)])
            generalize w7.setRow w.heap.size #[.int .i64 (val l 0 : Int), .int .i64 (val l 1 : Int), .int .i64 (val l 2 : Int), .int .i64 (val l 3 : Int), .int .i64 (val l 4 : Int), .string (B x)] = wf at *
            go_wp2_with fail
            obtain ⟨r0, r1, r2, r3, r4, r5⟩ := six HF.out
            exact bodyPost_ret (v := .tuple #[.agg #[.int .i64 (val l 0 : Int), .int .i64 (val l 1 : Int), .int .i64 (val l 2 : Int), .int .i64 (val l 3 : Int), .int .i64 (val l 4 : Int), .string (B x)], .int .i64 0]) (by simp [results, Try.results15, go_sem, r0, r1, r2, r3, r4, r5]) rfl ⟨by rw [HRES.out], HB.out⟩
          · replace HRES := Lib.hid (HRES.out.trans (if_neg (fun h => hy1 h.2.2)))
            have t1 : (y1.toList == (B m).toList) = false := beq_eq_false_iff_ne.2 (fun h => hy1 (eq_of_toList h))
            clear hy1
            go_wp2_with (refine gate_ (.store 25 (.tmp 2) (.tmp 65)) rfl ?_; refine wpList_plain rfl (fun K hK => ?_); refine wp_store_row 25 (.tmp 2) (.tmp 65) rfl w.heap.size #[.int .i64 0, .int .i64 0, .int .i64 0, .int .i64 0, .int .i64 0, .string ⟨#[]⟩] rfl rfl 25 #[.int .i64 0, .int .i64 0, .int .i64 0, .int .i64 0, .int .i64 0, .string ⟨#[]⟩] HR.out (by kernel_rfl) rfl (one6 _ _ _ _ _ _) (hK _ _ ?_); clear hK K; simp only [Act.put])
            have HF := Aside0.mk (show Blk (w7.setRow w.heap.size #[.int .i64 0, .int .i64 0, .int .i64 0, .int .i64 0, .int .i64 0, .string ⟨#[]⟩]) w.heap.size #[.int .i64 0, .int .i64 0, .int .i64 0, .int .i64 0, .int .i64 0, .string ⟨#[]⟩] 25 from setRow_heap w7 _ _ _ _ _ HR.out)
            have HB := Aside0.mk (below_setRow' HB.out (Nat.le_refl _) #[.int .i64 0, .int .i64 0, .int .i64 0, .int .i64 0, .int .i64 0, .string ⟨#[]⟩])
            generalize w7.setRow w.heap.size #[.int .i64 0, .int .i64 0, .int .i64 0, .int .i64 0, .int .i64 0, .string ⟨#[]⟩] = wf at *
            go_wp2_with fail
            obtain ⟨r0, r1, r2, r3, r4, r5⟩ := six HF.out
            exact bodyPost_ret (v := .tuple #[.agg #[.int .i64 0, .int .i64 0, .int .i64 0, .int .i64 0, .int .i64 0, .string ⟨#[]⟩], .int .i64 4]) (by simp [results, Try.results15, go_sem, r0, r1, r2, r3, r4, r5]) rfl ⟨by rw [HRES.out]; rfl, HB.out⟩
        · replace HRES := Lib.hid (HRES.out.trans (if_neg (fun h => hy2 h.2.1)))
          have t1 : (y2 == 0) = false := by simpa using hy2
          have t2 : (y2 != 0) = true := by simp [bne, t1]
          clear hy2
          go_wp2_with (refine gate_ (.store 25 (.tmp 2) (.tmp 65)) rfl ?_; refine wpList_plain rfl (fun K hK => ?_); refine wp_store_row 25 (.tmp 2) (.tmp 65) rfl w.heap.size #[.int .i64 0, .int .i64 0, .int .i64 0, .int .i64 0, .int .i64 0, .string ⟨#[]⟩] rfl rfl 25 #[.int .i64 0, .int .i64 0, .int .i64 0, .int .i64 0, .int .i64 0, .string ⟨#[]⟩] HR.out (by kernel_rfl) rfl (one6 _ _ _ _ _ _) (hK _ _ ?_); clear hK K; simp only [Act.put])
          have HF := Aside0.mk (show Blk (w7.setRow w.heap.size #[.int .i64 0, .int .i64 0, .int .i64 0, .int .i64 0, .int .i64 0, .string ⟨#[]⟩]) w.heap.size #[.int .i64 0, .int .i64 0, .int .i64 0, .int .i64 0, .int .i64 0, .string ⟨#[]⟩] 25 from setRow_heap w7 _ _ _ _ _ HR.out)
          have HB := Aside0.mk (below_setRow' HB.out (Nat.le_refl _) #[.int .i64 0, .int .i64 0, .int .i64 0, .int .i64 0, .int .i64 0, .string ⟨#[]⟩])
          generalize w7.setRow w.heap.size #[.int .i64 0, .int .i64 0, .int .i64 0, .int .i64 0, .int .i64 0, .string ⟨#[]⟩] = wf at *
          go_wp2_with fail
          obtain ⟨r0, r1, r2, r3, r4, r5⟩ := six HF.out
          exact bodyPost_ret (v := .tuple #[.agg #[.int .i64 0, .int .i64 0, .int .i64 0, .int .i64 0, .int .i64 0, .string ⟨#[]⟩], .int .i64 4]) (by simp [results, Try.results15, go_sem, r0, r1, r2, r3, r4, r5]) rfl ⟨by rw [HRES.out]; rfl, HB.out⟩
      · replace HRES := Lib.hid (HRES.out.trans (if_neg (fun h => hz h.1)))
        have t1 : (z == 0) = false := by simpa using hz
        have t2 : (z != 0) = true := by simp [bne, t1]
        clear hz
        go_wp2_with (refine gate_ (.store 25 (.tmp 2) (.tmp 65)) rfl ?_; refine wpList_plain rfl (fun K hK => ?_); refine wp_store_row 25 (.tmp 2) (.tmp 65) rfl w.heap.size #[.int .i64 0, .int .i64 0, .int .i64 0, .int .i64 0, .int .i64 0, .string ⟨#[]⟩] rfl rfl 25 #[.int .i64 0, .int .i64 0, .int .i64 0, .int .i64 0, .int .i64 0, .string ⟨#[]⟩] HR.out (by kernel_rfl) rfl (one6 _ _ _ _ _ _) (hK _ _ ?_); clear hK K; simp only [Act.put])
        have HF := Aside0.mk (show Blk (w7.setRow w.heap.size #[.int .i64 0, .int .i64 0, .int .i64 0, .int .i64 0, .int .i64 0, .string ⟨#[]⟩]) w.heap.size #[.int .i64 0, .int .i64 0, .int .i64 0, .int .i64 0, .int .i64 0, .string ⟨#[]⟩] 25 from setRow_heap w7 _ _ _ _ _ HR.out)
        have HB := Aside0.mk (below_setRow' HB.out (Nat.le_refl _) #[.int .i64 0, .int .i64 0, .int .i64 0, .int .i64 0, .int .i64 0, .string ⟨#[]⟩])
        generalize w7.setRow w.heap.size #[.int .i64 0, .int .i64 0, .int .i64 0, .int .i64 0, .int .i64 0, .string ⟨#[]⟩] = wf at *
        go_wp2_with fail
        obtain ⟨r0, r1, r2, r3, r4, r5⟩ := six HF.out
        exact bodyPost_ret (v := .tuple #[.agg #[.int .i64 0, .int .i64 0, .int .i64 0, .int .i64 0, .int .i64 0, .string ⟨#[]⟩], .int .i64 4]) (by simp [results, Try.results15, go_sem, r0, r1, r2, r3, r4, r5]) rfl ⟨by rw [HRES.out]; rfl, HB.out⟩
  · have HRES := Lib.hid (show secR m = (0, 0, 0, 0, 0, B [], e1) by unfold secR; rw [ho, if_pos he])
    have t1 : (e1 == 0) = false := by simpa using he
    have t2 : (e1 != 0) = true := by simp [bne, t1]
    clear he ho
    go_wp2_with (refine gate_ (.store 25 (.tmp 2) (.tmp 17)) rfl ?_; refine wpList_plain rfl (fun K hK => ?_); refine wp_store_row 25 (.tmp 2) (.tmp 17) rfl w.heap.size #[.int .i64 0, .int .i64 0, .int .i64 0, .int .i64 0, .int .i64 0, .string ⟨#[]⟩] rfl rfl 25 #[.int .i64 0, .int .i64 0, .int .i64 0, .int .i64 0, .int .i64 0, .string ⟨#[]⟩] HR.out (by kernel_rfl) rfl (one6 _ _ _ _ _ _) (hK _ _ ?_); clear hK K; simp only [Act.put])
    have HF := Aside0.mk (show Blk (w1.setRow w.heap.size #[.int .i64 0, .int .i64 0, .int .i64 0, .int .i64 0, .int .i64 0, .string ⟨#[]⟩]) w.heap.size #[.int .i64 0, .int .i64 0, .int .i64 0, .int .i64 0, .int .i64 0, .string ⟨#[]⟩] 25 from setRow_heap w1 _ _ _ _ _ HR.out)
    have HB := Aside0.mk (below_setRow' HB.out (Nat.le_refl _) #[.int .i64 0, .int .i64 0, .int .i64 0, .int .i64 0, .int .i64 0, .string ⟨#[]⟩])
    generalize w1.setRow w.heap.size #[.int .i64 0, .int .i64 0, .int .i64 0, .int .i64 0, .int .i64 0, .string ⟨#[]⟩] = wf at *
    go_wp2_with fail
    obtain ⟨r0, r1, r2, r3, r4, r5⟩ := six HF.out
    exact bodyPost_ret (v := .tuple #[.agg #[.int .i64 0, .int .i64 0, .int .i64 0, .int .i64 0, .int .i64 0, .string ⟨#[]⟩], .int .i64 e1]) (by simp [results, Try.results15, go_sem, r0, r1, r2, r3, r4, r5]) rfl ⟨by rw [HRES.out]; rfl, HB.out⟩
/-- sluicegateref07.Read, in the form in which its callers take it. -/
def sluicegateref07_Read.f (a0 : ByteArray) : Option (Int × Int × Int × Int × Int × ByteArray × Int) :=
  if a0.size ≤ 140737488355328 then some (secR a0.data.toList) else none
theorem sluicegateref07_Read.calls (a0 : ByteArray) (r1 r2 r3 r4 r5 : Int) (r6 : ByteArray) (r7 : Int) (w : World) (h : sluicegateref07_Read.f a0 = some (r1, r2, r3, r4, r5, r6, r7)) :
    Calls Try.prog 15 #[.string a0] w fun e w' => e = .returned (.tuple #[.agg #[.int .i64 r1, .int .i64 r2, .int .i64 r3, .int .i64 r4, .int .i64 r5, .string r6], .int .i64 r7]) ∧ Below w.heap.size w w' := by
  unfold sluicegateref07_Read.f at h
  split at h
  · rename_i hs
    have h := Option.some.inj h
    have := rread_calls a0.data.toList (by rw [size_data]; exact hs) w
    rw [h, B_eta] at this
    exact this
  · cases h
end Go.Proofs.Ytoakibpgmjebeaa
/-! Sectors: what is written is read, what is read was written; told as plain functions. -/
namespace Go.Proofs.Ytoakibpgmjebeaa
open Go.RowKit Q Go.Proofs.YtoakibpgmjebeaaW.PrintWords Go.Proofs.YtoakibpgmjebeaaW.PrintLast Go.Proofs.YtoakibpgmjebeaaW.PrintMore
theorem sread_f (l : List UInt8) (h : l.length ≤ 140737488355328) : sector_Read.f (B l) = some (secR l) := by
  have hs : (B l).size ≤ 140737488355328 := by rw [B_size]; exact h
  unfold sector_Read.f
  rw [if_pos hs]
  rfl
theorem rsread_f (l : List UInt8) (h : l.length ≤ 140737488355328) : sluicegateref07_Read.f (B l) = some (secR l) := by
  have hs : (B l).size ≤ 140737488355328 := by rw [B_size]; exact h
  unfold sluicegateref07_Read.f
  rw [if_pos hs]
  rfl
theorem secR_sealed (u : List UInt8) : (secR (sealL u)).2.2.2.2.2.2 = 0 ∨ (secR (sealL u)).2.2.2.2.2.2 = 4 := by
  unfold secR
  rw [openL_seal]
  simp only [ne_eq, not_true_eq_false, if_false]
  split
  · exact .inl rfl
  · exact .inr rfl
theorem nx_enc (m : Nat) (r : List UInt8) (h : m < 2 ^ 56) : nx (enc m ++ r, 0) = (m, r, 0) := by
  unfold nx
  simp only [if_true]
  exact tk_zero m r h
theorem secR_back (v g i d s : Nat) (t : List UInt8) (hc : chk v g i d s t.length = 0) : secR (sealL (secT v g i d s t)) = ((v : Int), (g : Int), (i : Int), (d : Int), (s : Int), B t, 0) := by
  obtain ⟨⟨_, hv, _, hg, _, hi, _, hd, _, hs⟩, ht⟩ := chk_ok (v := (v : Int)) (g := (g : Int)) (i := (i : Int)) (d := (d : Int)) (s := (s : Int)) (n := t.length) hc
  obtain ⟨l, hl⟩ : ∃ l, l = enc v ++ (enc g ++ (enc i ++ (enc d ++ (enc s ++ txt t)))) := ⟨_, rfl⟩
  have hu : secT v g i d s t = [83, 71] ++ l := by
    rw [hl]
    unfold secT
    simp only [List.append_assoc]
  have r1 : nx (rdn l 0) = (v, enc g ++ (enc i ++ (enc d ++ (enc s ++ txt t))), 0) := by
    show nx (l, 0) = _
    rw [hl]
    exact nx_enc v _ (by omega)
  have e1 : rdn l 1 = (enc g ++ (enc i ++ (enc d ++ (enc s ++ txt t))), 0) := congrArg Prod.snd r1
  have r2 : nx (rdn l 1) = (g, enc i ++ (enc d ++ (enc s ++ txt t)), 0) := by rw [e1]; exact nx_enc g _ (by omega)
  have e2 : rdn l 2 = (enc i ++ (enc d ++ (enc s ++ txt t)), 0) := congrArg Prod.snd r2
  have r3 : nx (rdn l 2) = (i, enc d ++ (enc s ++ txt t), 0) := by rw [e2]; exact nx_enc i _ (by omega)
  have e3 : rdn l 3 = (enc d ++ (enc s ++ txt t), 0) := congrArg Prod.snd r3
  have r4 : nx (rdn l 3) = (d, enc s ++ txt t, 0) := by rw [e3]; exact nx_enc d _ (by omega)
  have e4 : rdn l 4 = (enc s ++ txt t, 0) := congrArg Prod.snd r4
  have r5 : nx (rdn l 4) = (s, txt t, 0) := by rw [e4]; exact nx_enc s _ (by omega)
  have e5 : rdn l 5 = (txt t, 0) := congrArg Prod.snd r5
  have et : tx (rdn l 5) = (t, [], 0) := by
    rw [e5]
    unfold tx
    simp only [if_true]
    have := tkT_txt t [] (by omega)
    rw [List.append_nil] at this
    exact this
  have hcut : cutp (secT v g i d s t) = (l, true) := by
    rw [hu]
    unfold cutp
    rw [if_pos (by rfl)]
    rfl
  have hdd : (B (secT v g i d s t)).data.toList = secT v g i d s t := rfl
  unfold secR
  rw [openL_seal]
  simp only [ne_eq, not_true_eq_false, if_false, hdd, hcut, et]
  have w1 : val l 0 = v := congrArg Prod.fst r1
  have w2 : val l 1 = g := congrArg Prod.fst r2
  have w3 : val l 2 = i := congrArg Prod.fst r3
  have w4 : val l 3 = d := congrArg Prod.fst r4
  have w5 : val l 4 = s := congrArg Prod.fst r5
  rw [w1, w2, w3, w4, w5, if_pos ⟨trivial, rfl, hc⟩]
theorem secR_inv (m : List UInt8) (h : (secR m).2.2.2.2.2.2 = 0) : ∃ (v g i d s : Nat) (t : List UInt8), secR m = ((v : Int), (g : Int), (i : Int), (d : Int), (s : Int), B t, 0) ∧ m = sealL (secT v g i d s t) ∧ chk v g i d s t.length = 0 := by
  rcases openL_cases m with ⟨_, ho⟩ | ⟨_, _, ho⟩ | ⟨u, hm, ho⟩
  · unfold secR at h
    rw [ho, if_pos (by decide)] at h
    exact absurd h (by decide)
  · unfold secR at h
    rw [ho, if_pos (by decide)] at h
    exact absurd h (by decide)
  · have hd : (B u).data.toList = u := rfl
    unfold secR at h ⊢
    rw [ho] at h ⊢
    simp only [ne_eq, not_true_eq_false, if_false, hd] at h ⊢
    split at h
    · rename_i hh
      rw [if_pos hh]
      refine ⟨_, _, _, _, _, _, rfl, ?_, hh.2.2⟩
      rw [← five_inv _ hh.2.1, hm]
      have h1 := hh.1
      congr 1
      unfold cutp at h1 ⊢
      split at h1
      · rename_i h2
        rw [if_pos h2, ← h2, List.take_append_drop]
      · cases h1
    · exact absurd h (by decide)
theorem secT_len (v g i d s : Int) (t : List UInt8) (h : Rng v g i d s) (ht : t.length ≤ 64) : (secT v.toNat g.toNat i.toNat d.toNat s.toNat t).length ≤ 114 := by
  unfold secT
  rw [← encK5, List.length_append, List.length_append]
  have h1 := encK_len _ (five_lt h) 5
  have h2 := txt_len t ht
  simp only [List.length_cons, List.length_nil]
  omega
theorem secW_ok {v g i d s : Int} {t : ByteArray} (h : (secW v g i d s t).2 = 0) : chk v g i d s t.size = 0 ∧ secW v g i d s t = (B (sealL (secT v.toNat g.toNat i.toNat d.toNat s.toNat t.data.toList)), 0) := by
  unfold secW at h ⊢
  by_cases hc : chk v g i d s t.size = 0
  · exact ⟨hc, if_pos hc⟩
  · rw [if_neg hc] at h
    exact absurd h hc
theorem secR_backI {v g i d s : Int} {t : ByteArray} (hc : chk v g i d s t.size = 0) : secR (sealL (secT v.toNat g.toNat i.toNat d.toNat s.toNat t.data.toList)) = (v, g, i, d, s, t, 0) := by
  obtain ⟨⟨h0, _, h1, _, h2, _, h3, _, h4, _⟩, _⟩ := chk_ok hc
  have := secR_back v.toNat g.toNat i.toNat d.toNat s.toNat t.data.toList (by
    rw [Int.toNat_of_nonneg h0, Int.toNat_of_nonneg h1, Int.toNat_of_nonneg h2, Int.toNat_of_nonneg h3, Int.toNat_of_nonneg h4, size_data]; exact hc)
  rw [Int.toNat_of_nonneg h0, Int.toNat_of_nonneg h1, Int.toNat_of_nonneg h2, Int.toNat_of_nonneg h3, Int.toNat_of_nonneg h4, B_eta] at this
  exact this
end Go.Proofs.Ytoakibpgmjebeaa
