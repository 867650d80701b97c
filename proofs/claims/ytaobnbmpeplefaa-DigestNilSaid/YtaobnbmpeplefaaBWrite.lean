/- (*strings.Builder).Write. -/
import Derived.Test.YtaobnbmpeplefaaBuilder
namespace Go.Proofs.Ytaobnbmpeplefaa
open Go.RowKit
set_option maxHeartbeats 2000000 in
set_option maxRecDepth 100000 in
theorem bWrite (B b : Nat) (l m : List UInt8) (ad : Addr) (cp : Nat) (w : World) (h : Bd B b l w) (hm : ∀ (j : Nat) (x : UInt8), m[j]? = some x → w.cell? (ad.add j) = some (.int .u8 (x.toNat : Int))) (had : ad.block ≠ b) (hm0 : m ≠ []) (hlen : l.length + m.length ≤ 140737488355328) (hB : B ≤ w.heap.size) :
    Calls Try.prog 23 #[.pointer (some ⟨b, 0, none⟩), .slice (some ad) m.length cp] w fun e w' => e = .returned (.tuple #[.int .i64 m.length, .nilIface]) ∧ Bd B b (l ++ m) w' ∧ Bf B b w w' := by
  obtain ⟨i0, hi, hz0, hz1, hz2⟩ := info8
  have HH := Lib.hid h
  have HL := Lib.hid hlen
  have HB := Lib.hid hB
  have HM := Lib.hid hm
  have H0 := Lib.hid hm0
  have HD := Lib.hid had
  clear h hlen hB hm hm0 had
  go_enter Try.func23, Try.ntmps23
  go_wp2_with (go_at_call 27; refine (bcc B b l _ HH.out).mono ?_)
  rintro e w1 ⟨rfl, ⟨v, hA⟩, hcf⟩
  obtain ⟨hbk, hown, hne, h00⟩ := hA
  have HA : Hid (BdAt B b (.pointer (some ⟨b, 0, none⟩)) v l w1) := Lib.hid ⟨hbk, hown, hne, h00⟩
  have HCF := Lib.hid hcf
  clear hcf h00
  have c0 : w1.cell? ⟨b, 0, none⟩ = some (.pointer (some ⟨b, 0, none⟩)) := by rw [Lib.cell_of_heap hbk]; rfl
  have c1 : w1.cell? ⟨b, 1, none⟩ = some v := by rw [Lib.cell_of_heap hbk]; rfl
  go_wp2_with (at_builtin; refine wpList_append_ownF _ rfl _ _ 31 rfl B 5 i0 (.int .u8 0) 1 1 (by kernel_rfl) hi hz0 hz1 hz2 rfl (by decide) _ _ _ rfl hown ad m.length cp (Lib.byteCells m) rfl (by rw [Lib.byteCells_length, Nat.mul_one]) ?c1 ?c2 ?c3 ?c4 ?c5 ?_)
  case c1 =>
    intro j u hj
    have hcell : ∃ x, m[j]? = some x ∧ u = .int .u8 (x.toNat : Int) := by
      simp only [Lib.byteCells, List.getElem?_map, Option.map_eq_some_iff] at hj
      obtain ⟨x, hx, rfl⟩ := hj
      exact ⟨x, hx, rfl⟩
    obtain ⟨x, hx, rfl⟩ := hcell
    have h1 := HM.out j x hx
    have hb : (ad.add j).block = ad.block := by unfold Addr.add; split <;> rfl
    exact (World.cell?_of_block (HCF.out.block _ (by rw [hb]; exact HD.out))).trans h1
  case c2 => intro u hu; simp only [Lib.byteCells, List.mem_map] at hu; obtain ⟨x, _, rfl⟩ := hu; rfl
  case c3 => have := HL.out; unfold maxLen; omega
  case c4 => have := HL.out; omega
  case c5 => have := HB.out; have := HCF.out.size; omega
  intro v' w2 hown' hgrow hv'
  have hlt : b < w1.heap.size := (Array.getElem?_eq_some_iff.1 hbk).1
  have hb2 : w2.heap[b]? = some (.cells #[.pointer (some ⟨b, 0, none⟩), v] 41 (0, 0)) := by
    rw [hgrow.block b (by omega) (fun e => hne e.symm)]
    exact hbk
  have d0 : w2.cell? ⟨b, 0, none⟩ = some (.pointer (some ⟨b, 0, none⟩)) := by rw [Lib.cell_of_heap hb2]; rfl
  have d1 : w2.cell? ⟨b, 1, none⟩ = some v := by rw [Lib.cell_of_heap hb2]; rfl
  have f1 : w2.frozen? ⟨b, 1, none⟩ = false := Lib.frozen_of_heap hb2 1
  have hm1 : m.length ≠ 0 := by have := H0.out; simpa using this
  have HP : Hid (BdAt B b (.pointer (some ⟨b, 0, none⟩)) v' (l ++ m) (w2.setCell ⟨b, 1, none⟩ v')) := Lib.hid (BdAt.put hb2 (by rw [List.length_append, Lib.byteCells_append]; exact hown') (by intro e; exact absurd (List.append_eq_nil_iff.1 e).2 H0.out))
  have HQ : Hid (Bf B b w (w2.setCell ⟨b, 1, none⟩ v')) := Lib.hid (Bf.write (l := l) HCF.out HB.out (Below.refl _ _) HA.out.2.1 hgrow)
  obtain ⟨g, cap, rfl⟩ : ∃ g cap, v' = .slice (some ⟨g, 0, none⟩) (l.length + m.length) cap := by
    rcases hown'.2 with ⟨_, h0⟩ | ⟨g, cap, cur, fz, hv, _⟩
    · omega
    · exact ⟨g, cap, hv⟩
  clear hv' hgrow hown' hown hbk hb2 hm1
  go_wp2
  go_ret2
  exact ⟨rfl, ⟨_, _, .inr rfl, HP.out⟩, HQ.out⟩
end Go.Proofs.Ytaobnbmpeplefaa
