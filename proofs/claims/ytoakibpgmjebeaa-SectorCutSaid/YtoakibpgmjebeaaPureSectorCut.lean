/- SectorCut, the plain part: a shard without its end is not that shard. -/
import Derived.Test.YtoakibpgmjebeaaQx15
import Derived.Test.YtoakibpgmjebeaaRefSecRead
namespace Go.Proofs.Ytoakibpgmjebeaa.Pure
open Go.RowKit Go.Proofs.Ytoakibpgmjebeaa.Q Go.Proofs.YtoakibpgmjebeaaW.PrintWords Go.Proofs.YtoakibpgmjebeaaW.PrintLast
theorem SectorCut (v g i d s : Int) (t : ByteArray) (n : Int) {P0 P1 P2 P3 P4 P5 P6 : Prop} (_ : P0) (_ : P1) (_ : P2) (_ : P3) (_ : P4) (_ : P5) (_ : P6) : ∃ k, sluicegatelaw07_SectorCut.f k v g i d s t n = some true := by
  refine ⟨1, ?_⟩
  have hj : ∀ x, sluicegatelaw07_SectorCut.j0 1 n x true v g i d s t = some true := fun _ => rfl
  unfold sluicegatelaw07_SectorCut.f
  by_cases h : (t.size : Int) > 200
  · rw [if_pos h]; rfl
  rw [if_neg h]
  unfold sluicegatelaw07_own.f sector_Write.f
  simp only [Option.bind_some]
  by_cases e1 : (secW v g i d s t).2 = 0
  · rw [if_pos e1]
    obtain ⟨hc, hw⟩ := secW_ok e1
    by_cases h0 : n < 0
    · rw [if_pos h0, hj]
    rw [if_neg h0, hw]
    simp only
    obtain ⟨S, hS⟩ : ∃ S, sealL (secT v.toNat g.toNat i.toNat d.toNat s.toNat t.data.toList) = S := ⟨_, rfl⟩
    have hlen : S.length ≤ 118 := by
      rw [← hS, sealL_len]
      have := secT_len v g i d s t.data.toList (chk_ok hc).1 (by rw [size_data]; exact (chk_ok hc).2)
      omega
    rw [hS]
    by_cases h1 : n ≥ ((B S).size : Int)
    · rw [decide_eq_true h1, hj]
    rw [decide_eq_false h1]
    have hn : (S.take n.toNat).length < S.length := by
      rw [B_size] at h1
      rw [List.length_take]
      omega
    have hx : (B S).extract 0 n.toNat = B (S.take n.toNat) := by rw [B_extract, List.drop_zero, Nat.sub_zero]
    have hle : n ≤ ((B S).size : Int) := by omega
    have hge : 0 ≤ n := by omega
    rw [sluicegatelaw07_SectorCut.j0, if_neg (by decide), if_pos hge, if_pos hle, hx, sread_f _ (by omega), Option.bind_some]
    unfold sluicegatelaw07_own.f
    by_cases h2 : (secR (S.take n.toNat)).2.2.2.2.2.2 = 0
    · rw [if_pos h2, Option.bind_some]
      obtain ⟨a, b, c, d', e, t', hR, hm, _⟩ := secR_inv _ h2
      rw [hR]
      simp only
      rw [if_pos]
      · rfl
      · cases hb : (!((a : Int) == v) || (!((b : Int) == g) || (!((c : Int) == i) || ((!((d' : Int) == d) || (!((e : Int) == s))) || (!((B t').toList == t.toList)))))) with
        | true => rfl
        | false =>
          exfalso
          simp only [Bool.or_eq_false_iff, Bool.not_eq_false', beq_iff_eq] at hb
          obtain ⟨r1, r2, r3, ⟨r4, r5⟩, r6⟩ := hb
          have r6 := eq_of_toList r6
          have : S.take n.toNat = S := by
            rw [hm, ← hS, ← r1, ← r2, ← r3, ← r4, ← r5, ← r6]
            rfl
          rw [this] at hn
          exact Nat.lt_irrefl _ hn
    · rw [if_neg h2]; rfl
  · rw [if_neg e1, hj]
end Go.Proofs.Ytoakibpgmjebeaa.Pure
