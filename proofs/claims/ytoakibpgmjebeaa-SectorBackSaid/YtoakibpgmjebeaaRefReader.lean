/- The document's reader (sluicegateref05.Reader): Number and Text, told as plain functions; their walks. -/
import Derived.Test.YtoakibpgmjebeaaQE
import Derived.Lib.Hide
import Derived.WalkSpells
import Derived.WalkLawsBesides
namespace Go.Proofs.Ytoakibpgmjebeaa
open Go.RowKit Q Go.Proofs.YtoakibpgmjebeaaW.PrintWords Go.Proofs.YtoakibpgmjebeaaW.PrintLast
def sluicegateref05_Reader_Number.f (k : Nat) (s : ByteArray) (e : Int) : Option (Int × ByteArray × Int) := if e = 0 then sluicegateref05_Take.f k s else some (0, s, e)
theorem sluicegateref05_Reader_Number.mono : ∀ s e k, LeO (sluicegateref05_Reader_Number.f k s e) (sluicegateref05_Reader_Number.f (k + 1) s e) := by
  intro s e k
  unfold sluicegateref05_Reader_Number.f
  exact LeO.ite (sluicegateref05_Take.mono _ _) (LeO.refl _)
set_option maxRecDepth 100000 in
set_option maxHeartbeats 400000 in
theorem sluicegateref05_Reader_Number.calls (k : Nat) (g : Nat) (s0_0 : ByteArray) (s0_1 : Int) (r1 : Int) (r2 : ByteArray) (r3 : Int) (w0 w : World) (hI : IsS68 w0 w g s0_0 s0_1) (hB : Below w0.heap.size w0 w) (h : sluicegateref05_Reader_Number.f k s0_0 s0_1 = some (r1, r2, r3)) :
    Calls Try.prog 34 #[.pointer (some ⟨g, 0, none⟩)] w fun e w' => e = .returned (.int .i64 r1) ∧ IsS68 w0 w' g r2 r3 ∧ Below w0.heap.size w0 w' ∧ KeepBut w w' g none := by
  have HI := Lib.hid hI
  have HB := Lib.hid hB
  have c0 := cellS68_0 hI.1
  have c1 := cellS68_1 hI.1
  clear hI hB
  unfold sluicegateref05_Reader_Number.f at h
  by_cases he : s0_1 = 0
  · rw [if_pos he] at h
    subst he
    have H := Lib.hid h
    clear h
    go_enter Try.func34, Try.ntmps34
    go_wp2_with fail
    refine (sluicegateref05_Take.calls k s0_0 r1 r2 r3 _ H.out).mono ?_
    rintro e w1 ⟨rfl, hd⟩
    have I1 := HI.out.below hd.below
    have K1 : KeepBut w w1 g none := KeepBut.of_below hd.below g none
    have B1 := Lib.hid (below_then HB.out HB.out.size hd.below)
    have d0 := cellS68_0 I1.1
    have d1 := cellS68_1 I1.1
    have f0 := blk_frozen I1.1 0
    have f1 := blk_frozen I1.1 1
    have J1 := Lib.hid I1
    have K1 := Lib.hid K1
    clear I1 hd c0 c1
    go_wp2
    go_ret
    exact ⟨rfl, (J1.out.set_0 r2).set_1 r3, below_set (below_set B1.out J1.out.ge) J1.out.ge, (K1.out.set_ 0 _).set_ 1 _⟩
  · rw [if_neg he] at h
    simp only [Option.some.injEq, Prod.mk.injEq] at h
    obtain ⟨rfl, rfl, rfl⟩ := h
    have he1 : (s0_1 != 0) = true := bne_iff_ne.mpr he
    clear he
    go_enter Try.func34, Try.ntmps34
    go_wp2
    go_ret
    exact ⟨rfl, HI.out, HB.out, KeepBut.refl _ _ _⟩
def sluicegateref05_Reader_Text.f (k : Nat) (s : ByteArray) (e : Int) : Option (ByteArray × ByteArray × Int) :=
  (sluicegateref05_Reader_Number.f k s e).bind fun t => if t.2.2 = 0 then (if t.1 > (t.2.1.size : Int) then some (⟨#[]⟩, ⟨#[]⟩, 3) else if 0 ≤ t.1 then some (t.2.1.extract 0 t.1.toNat, t.2.1.extract t.1.toNat t.2.1.size, 0) else none) else some (⟨#[]⟩, ⟨#[]⟩, t.2.2)
theorem sluicegateref05_Reader_Text.mono : ∀ s e k, LeO (sluicegateref05_Reader_Text.f k s e) (sluicegateref05_Reader_Text.f (k + 1) s e) := by
  intro s e k
  unfold sluicegateref05_Reader_Text.f
  exact LeO.bind (sluicegateref05_Reader_Number.mono _ _ _) (fun _ => LeO.refl _)
set_option maxRecDepth 100000 in
set_option maxHeartbeats 400000 in
theorem sluicegateref05_Reader_Text.calls (k : Nat) (g : Nat) (s0_0 : ByteArray) (s0_1 : Int) (r1 : ByteArray) (r2 : ByteArray) (r3 : Int) (w0 w : World) (hI : IsS68 w0 w g s0_0 s0_1) (hB : Below w0.heap.size w0 w) (h : sluicegateref05_Reader_Text.f k s0_0 s0_1 = some (r1, r2, r3)) :
    Calls Try.prog 35 #[.pointer (some ⟨g, 0, none⟩)] w fun e w' => e = .returned (.string r1) ∧ IsS68 w0 w' g r2 r3 ∧ Below w0.heap.size w0 w' ∧ KeepBut w w' g none := by
  unfold sluicegateref05_Reader_Text.f at h
  obtain ⟨⟨n, s, e⟩, hn, h⟩ := Option.bind_eq_some_iff.mp h
  have HI := Lib.hid hI
  have HB := Lib.hid hB
  have HN := Lib.hid hn
  clear hI hB hn
  simp only at h
  by_cases he : e = 0
  · rw [if_pos he] at h
    subst he
    by_cases hgt : n > (s.size : Int)
    · rw [if_pos hgt] at h
      simp only [Option.some.injEq, Prod.mk.injEq] at h
      obtain ⟨rfl, rfl, rfl⟩ := h
      go_enter Try.func35, Try.ntmps35
      go_wp2_with fail
      refine (sluicegateref05_Reader_Number.calls k g _ _ _ _ _ w0 _ HI.out HB.out HN.out).mono ?_
      rintro e w1 ⟨rfl, I1, B1, K1⟩
      have d0 := cellS68_0 I1.1
      have d1 := cellS68_1 I1.1
      have f0 := blk_frozen I1.1 0
      have f1 := blk_frozen I1.1 1
      have J1 := Lib.hid I1
      have K1 := Lib.hid K1
      have B1 := Lib.hid B1
      clear I1
      go_wp2_with fail
      go_ret
      exact ⟨rfl, (J1.out.set_1 3).set_0 _, below_set (below_set B1.out J1.out.ge) J1.out.ge, (K1.out.set_ 1 _).set_ 0 _⟩
    · rw [if_neg hgt] at h
      by_cases h0 : 0 ≤ n
      · rw [if_pos h0] at h
        simp only [Option.some.injEq, Prod.mk.injEq] at h
        obtain ⟨rfl, rfl, rfl⟩ := h
        have hle : n ≤ (s.size : Int) := by omega
        clear hgt
        obtain ⟨n, rfl⟩ := Int.eq_ofNat_of_zero_le h0
        rw [Int.toNat_natCast]
        have hle' : n ≤ s.size := by omega
        go_enter Try.func35, Try.ntmps35
        go_wp2_with fail
        refine (sluicegateref05_Reader_Number.calls k g _ _ _ _ _ w0 _ HI.out HB.out HN.out).mono ?_
        rintro e w1 ⟨rfl, I1, B1, K1⟩
        have d0 := cellS68_0 I1.1
        have d1 := cellS68_1 I1.1
        have f0 := blk_frozen I1.1 0
        have f1 := blk_frozen I1.1 1
        have J1 := Lib.hid I1
        have K1 := Lib.hid K1
        have B1 := Lib.hid B1
        clear I1
        go_wp2_with fail
        go_ret
        exact ⟨rfl, J1.out.set_0 _, below_set B1.out J1.out.ge, K1.out.set_ 0 _⟩
      · rw [if_neg h0] at h
        cases h
  · rw [if_neg he] at h
    simp only [Option.some.injEq, Prod.mk.injEq] at h
    obtain ⟨rfl, rfl, rfl⟩ := h
    have he1 : (e != 0) = true := bne_iff_ne.mpr he
    have he2 : (e == 0) = false := beq_eq_false_iff_ne.mpr he
    clear he
    go_enter Try.func35, Try.ntmps35
    go_wp2_with fail
    refine (sluicegateref05_Reader_Number.calls k g _ _ _ _ _ w0 _ HI.out HB.out HN.out).mono ?_
    rintro e w1 ⟨rfl, I1, B1, K1⟩
    have d0 := cellS68_0 I1.1
    have d1 := cellS68_1 I1.1
    have f0 := blk_frozen I1.1 0
    have f1 := blk_frozen I1.1 1
    have J1 := Lib.hid I1
    have K1 := Lib.hid K1
    have B1 := Lib.hid B1
    clear I1
    go_wp2_with fail
    go_ret
    exact ⟨rfl, J1.out.set_0 _, below_set B1.out J1.out.ge, K1.out.set_ 0 _⟩
end Go.Proofs.Ytoakibpgmjebeaa
