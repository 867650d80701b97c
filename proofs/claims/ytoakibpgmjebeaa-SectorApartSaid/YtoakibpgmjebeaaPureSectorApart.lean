/- SectorApart, the plain part: two headers are written alike just if they are alike. -/
import Derived.Test.YtoakibpgmjebeaaQx14
import Derived.Test.YtoakibpgmjebeaaRefSecRead
namespace Go.Proofs.Ytoakibpgmjebeaa.Pure
open Go.RowKit Go.Proofs.Ytoakibpgmjebeaa.Q Go.Proofs.YtoakibpgmjebeaaW.PrintWords Go.Proofs.YtoakibpgmjebeaaW.PrintLast
theorem SectorApart (v g i d s : Int) (t : ByteArray) (v' g' i' d' s' : Int) (t' : ByteArray) {P0 P1 P2 P3 P4 P5 P6 P7 P8 P9 P10 P11 : Prop} (_ : P0) (_ : P1) (_ : P2) (_ : P3) (_ : P4) (_ : P5) (_ : P6) (_ : P7) (_ : P8) (_ : P9) (_ : P10) (_ : P11) : ∃ k, sluicegatelaw07_SectorApart.f k v g i d s t v' g' i' d' s' t' = some true := by
  refine ⟨2, ?_⟩
  have hj : sluicegatelaw07_SectorApart.j0 2 true v g i d s t v' g' i' d' s' t' = some true := rfl
  have hj1 : ∀ x y, sluicegatelaw07_SectorApart.j1 1 x y true v g i d s t v' g' i' d' s' t' = some true := fun _ _ => rfl
  unfold sluicegatelaw07_SectorApart.f
  by_cases h : (t.size : Int) > 200
  · rw [if_pos h, hj]
  rw [if_neg h]
  by_cases h' : (t'.size : Int) > 200
  · rw [decide_eq_true h', hj]
  rw [decide_eq_false h']
  rw [sluicegatelaw07_SectorApart.j0, if_neg (by decide)]
  unfold sluicegatelaw07_own.f sector_Write.f
  simp only [Option.bind_some]
  by_cases e1 : (secW v g i d s t).2 = 0
  · rw [if_pos e1]
    by_cases e2 : (secW v' g' i' d' s' t').2 = 0
    · obtain ⟨hc, hw⟩ := secW_ok e1
      obtain ⟨hc', hw'⟩ := secW_ok e2
      rw [hw, hw']
      have hb : ((0 : Int) != 0) = false := rfl
      simp only [hb]
      rw [sluicegatelaw07_SectorApart.j1, if_neg (by decide)]
      have hlen : ((B (sealL (secT v.toNat g.toNat i.toNat d.toNat s.toNat t.data.toList))).size : Int) ≤ 200 := by
        rw [B_size, sealL_len]
        have := secT_len v g i d s t.data.toList (chk_ok hc).1 (by rw [size_data]; exact (chk_ok hc).2)
        omega
      rw [if_pos hlen]
      have hb1 := secR_backI hc
      have hb2 := secR_backI hc'
      rw [B_toList, B_toList]
      rw [if_pos]
      · rfl
      · rw [beq_iff_eq]
        by_cases hq : v = v' ∧ g = g' ∧ i = i' ∧ d = d' ∧ s = s' ∧ t = t'
        · obtain ⟨rfl, rfl, rfl, rfl, rfl, rfl⟩ := hq
          simp only [beq_self_eq_true, Bool.and_self]
        · have hne : (sealL (secT v.toNat g.toNat i.toNat d.toNat s.toNat t.data.toList) == sealL (secT v'.toNat g'.toNat i'.toNat d'.toNat s'.toNat t'.data.toList)) = false := by
            rw [beq_eq_false_iff_ne]
            intro he
            rw [he, hb2] at hb1
            simp only [Prod.mk.injEq, and_true] at hb1
            obtain ⟨r1, r2, r3, r4, r5, r6⟩ := hb1
            exact hq ⟨r1.symm, r2.symm, r3.symm, r4.symm, r5.symm, r6.symm⟩
          rw [hne]
          symm
          cases hb : (v == v' && (g == g' && (i == i' && ((d == d' && (s == s')) && (t.toList == t'.toList))))) with
          | false => rfl
          | true =>
            simp only [Bool.and_eq_true, beq_iff_eq] at hb
            exact absurd ⟨hb.1, hb.2.1, hb.2.2.1, hb.2.2.2.1.1, hb.2.2.2.1.2, eq_of_toList hb.2.2.2.2⟩ hq
    · have hb : ((secW v' g' i' d' s' t').2 != 0) = true := bne_iff_ne.mpr e2
      rw [hb, hj1]
  · rw [if_neg e1, hj1]
end Go.Proofs.Ytoakibpgmjebeaa.Pure
