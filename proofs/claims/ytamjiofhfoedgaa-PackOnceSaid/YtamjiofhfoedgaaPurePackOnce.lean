/- PackOnce, the plain part: of a number no other bytes are read than those that are written. -/
import Derived.Test.YtamjiofhfoedgaaQx5
import Derived.Test.YtamjiofhfoedgaaPackFn
namespace Go.Proofs.Ytamjiofhfoedgaa.Pure
open Go.RowKit Go.Proofs.Ytamjiofhfoedgaa.Q Go.Proofs.YtamjiofhfoedgaaW.PrintWords Go.Proofs.YtamjiofhfoedgaaW.PrintLast
theorem PackOnce : sluicegatelaw05_PackOnce.Pure := by
  intro s hs
  obtain ⟨l, rfl⟩ := exB s
  rw [B_size] at hs
  refine ⟨30, ?_⟩
  unfold sluicegatelaw05_PackOnce.f
  by_cases h : ((B l).size : Int) > 20
  · rw [if_pos h]; rfl
  rw [if_neg h]
  simp only [pack_Read.f, Option.bind_some]
  rw [rnum_f l _ (by omega) (by omega)]
  simp only [Option.bind_some]
  have key : ∀ (e : Int) (b : Bool), (e = 0 ↔ b = true) → (if ((e == 0) == b) = true then (sluicegatelaw05_live.f).bind (fun t => some t) else some false) = some true := by
    intro e b hb
    rw [if_pos]
    · rfl
    · rw [beq_iff_eq, Bool.eq_iff_iff, beq_iff_eq]; exact hb
  rcases ht : tk l 0 0 with ⟨n, r, e⟩
  have herr := tk_err l 0 0
  rw [ht] at herr
  simp only at herr ⊢
  unfold pack_Reader_End.f
  rw [B_toList]
  by_cases h0 : e = 0
  · subst h0
    obtain ⟨hl, hn⟩ := tk_inv0 ht
    by_cases hr : r = []
    · rw [if_pos hr]
      simp only [Option.bind_some]
      rw [number_f n _ hn (by omega)]
      simp only [Option.bind_some]
      rw [B_toList, B_toList]
      refine key 0 _ ⟨fun _ => ?_, fun _ => rfl⟩
      rw [hl, hr, List.append_nil, beq_iff_eq]
    · rw [if_neg hr]
      simp only [pack_Reader_wrong.f, Option.bind_some]
      rw [number_f n _ hn (by omega)]
      simp only [Option.bind_some]
      rw [B_toList, B_toList]
      refine key 4 _ ⟨fun h => by omega, fun hb => ?_⟩
      rw [beq_iff_eq] at hb
      rw [hl] at hb
      have := congrArg List.length hb
      rw [List.length_append] at this
      exact absurd (List.eq_nil_of_length_eq_zero (by omega)) hr
  · have hz : ∀ e : Int, e ≠ 0 → (n, r, e) = (0, [], e) → (if r = [] then some (e, B r, e) else (pack_Reader_wrong.f (B r) e 4).bind fun bt135 => some (bt135.2, bt135.1, bt135.2)) = some (e, B [], e) := by
      intro e _ h
      simp only [Prod.mk.injEq, and_true] at h
      rw [h.2, if_pos rfl]
    have hzero : (n, r, e) = (0, [], e) := by
      rcases herr with h | h | h
      · exact absurd h h0
      · rw [h]; simp only [Prod.mk.injEq] at h; rw [h.2.2]
      · rw [h]; simp only [Prod.mk.injEq] at h; rw [h.2.2]
    rw [hz e h0 hzero]
    simp only [Option.bind_some]
    have hn : n = 0 := by simp only [Prod.mk.injEq] at hzero; exact hzero.1
    subst hn
    rw [number_f 0 _ (by omega) (by omega)]
    simp only [Option.bind_some]
    rw [B_toList, B_toList]
    refine key e _ ⟨fun h => absurd h h0, fun hb => ?_⟩
    rw [beq_iff_eq] at hb
    exfalso
    rw [← hb] at ht
    have := tk_zero 0 [] (by omega)
    rw [List.append_nil, ht] at this
    simp only [Prod.mk.injEq] at this
    exact h0 this.2.2
end Go.Proofs.Ytamjiofhfoedgaa.Pure
