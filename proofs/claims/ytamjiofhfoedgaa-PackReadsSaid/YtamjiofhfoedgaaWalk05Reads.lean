/- PackReads: its walk, over the contracts of both readers; what the two answer is the same. -/
import Derived.Test.YtamjiofhfoedgaaQx5
import Derived.Test.YtamjiofhfoedgaaTakeFn
import Derived.Test.YtamjiofhfoedgaaLive05
import Derived.Test.YtamjiofhfoedgaaRefReader
import Derived.WalkSpells
import Derived.WalkLawsBesides
import Derived.Lib.Hide
namespace Go.Proofs.Ytamjiofhfoedgaa
open Go.RowKit Q Go.Proofs.YtamjiofhfoedgaaW.PrintWords Go.Proofs.YtamjiofhfoedgaaW.PrintLast Go.Proofs.YtamjiofhfoedgaaW.PrintMore
/-- The two readers stand alike: what is left is told of where there is no error. -/
def Alike5 (L S : List UInt8) (E : Int) : Prop := L.length ≤ 1000 ∧ (E = 0 → S = L) ∧ (E ≠ 0 → L = [])
theorem sim_number {L S : List UInt8} {E : Int} (h : Alike5 L S E) : ∃ n L' S' E', pack_Reader_Number.f 30 (B L) E = some (n, B L', E') ∧ sluicegateref05_Reader_Number.f 30 (B S) E = some (n, B S', E') ∧ Alike5 L' S' E' := by
  obtain ⟨hl, h0, h1⟩ := h
  by_cases he : E = 0
  · subst he
    obtain rfl := h0 rfl
    have hle := tk_le S 0 0
    have herr := tk_err S 0 0
    refine ⟨_, _, _, _, rnum_f S 30 (by omega) (by omega), by unfold sluicegateref05_Reader_Number.f; rw [if_pos rfl]; exact take_f S 30 (by omega) (by omega), by omega, fun _ => rfl, fun hne => ?_⟩
    rcases herr with h | h | h
    · exact absurd h hne
    · rw [h]
    · rw [h]
  · obtain rfl := h1 he
    exact ⟨0, [], S, E, rnum_err _ _ _ he, by unfold sluicegateref05_Reader_Number.f; rw [if_neg he], by simp, fun h => absurd h he, fun _ => rfl⟩
theorem sim_text {L S : List UInt8} {E : Int} (h : Alike5 L S E) : ∃ t L' S' E', pack_Reader_Text.f 30 (B L) E = some (t, B L', E') ∧ sluicegateref05_Reader_Text.f 30 (B S) E = some (t, B S', E') ∧ Alike5 L' S' E' := by
  obtain ⟨hl, h0, h1⟩ := h
  by_cases he : E = 0
  · subst he
    obtain rfl := h0 rfl
    have hle := tk_le S 0 0
    have herr := tk_err S 0 0
    refine ⟨_, _, _, _, rtext_f S 30 (by omega) (by omega), ?_, ?_, fun _ => rfl, ?_⟩
    · unfold sluicegateref05_Reader_Text.f sluicegateref05_Reader_Number.f tkT
      rw [if_pos rfl, take_f S 30 (by omega) (by omega)]
      generalize tk S 0 0 = t at hle herr ⊢
      obtain ⟨n, r, e⟩ := t
      simp only [Option.bind_some]
      by_cases h2 : e = 0
      · subst h2
        simp only [ne_eq, not_true_eq_false, if_true, if_false, B_size]
        by_cases h3 : r.length < n
        · have h3' : (n : Int) > (r.length : Int) := by omega
          simp only [h3, h3', if_true]; rfl
        · have h3' : ¬ (n : Int) > (r.length : Int) := by omega
          have h3'' : (0 : Int) ≤ (n : Int) := by omega
          simp only [h3, h3', h3'', if_true, if_false]
          rw [Int.toNat_natCast, B_extract, B_extract, List.drop_zero, Nat.sub_zero, List.take_of_length_le (l := r.drop n) (by rw [List.length_drop]; omega)]
      · rw [if_neg h2, if_pos h2]; rfl
    · have := (tkT_le S).1; omega
    · intro hne
      rcases tkT_err S with h | h | h
      · exact absurd h hne
      · rw [h]
      · rw [h]
  · obtain rfl := h1 he
    refine ⟨⟨#[]⟩, [], [], E, rtext_err _ _ _ he (by omega), ?_, by simp, fun h => absurd h he, fun _ => rfl⟩
    unfold sluicegateref05_Reader_Text.f sluicegateref05_Reader_Number.f
    rw [if_neg he]
    simp only [Option.bind_some]
    rw [if_neg he]; rfl
theorem sim_rest {L S : List UInt8} {E : Int} (h : Alike5 L S E) : ∃ t L' S' E', pack_Reader_Rest.f (B L) E = some (t, B L', E') ∧ sluicegateref05_Reader_Rest.f (B S) E = some (t, B S', E') ∧ Alike5 L' S' E' := by
  obtain ⟨hl, h0, h1⟩ := h
  unfold pack_Reader_Rest.f sluicegateref05_Reader_Rest.f pack_Reader_works.f
  simp only [Option.bind_some]
  by_cases he : E = 0
  · subst he
    obtain rfl := h0 rfl
    refine ⟨B S, [], [], 0, by rw [if_pos (by rfl)]; rfl, by rw [if_pos rfl]; rfl, by simp, fun _ => rfl, fun _ => rfl⟩
  · obtain rfl := h1 he
    exact ⟨⟨#[]⟩, [], [], E, by rw [if_neg (by simpa using he)], by rw [if_neg he]; rfl, by simp, fun h => absurd h he, fun _ => rfl⟩
theorem sim_end {L S : List UInt8} {E : Int} (h : Alike5 L S E) : ∃ n L' S' E', pack_Reader_End.f (B L) E = some (n, B L', E') ∧ sluicegateref05_Reader_End.f (B S) E = some (n, B S', E') ∧ Alike5 L' S' E' := by
  obtain ⟨hl, h0, h1⟩ := h
  unfold pack_Reader_End.f sluicegateref05_Reader_End.f pack_Reader_wrong.f
  rw [B_toList, B_toList]
  by_cases he : E = 0
  · subst he
    obtain rfl := h0 rfl
    by_cases hs : S = []
    · exact ⟨0, S, S, 0, by rw [if_pos hs], by rw [if_pos rfl, if_pos hs], hl, fun _ => rfl, fun h => absurd rfl h⟩
    · exact ⟨4, [], S, 4, by rw [if_neg hs]; rfl, by rw [if_pos rfl, if_neg hs], by simp, fun h => by omega, fun _ => rfl⟩
  · obtain rfl := h1 he
    exact ⟨E, [], S, E, by rw [if_pos rfl], by rw [if_neg he], by simp, fun h => absurd h he, fun _ => rfl⟩
set_option maxRecDepth 100000 in
set_option maxHeartbeats 400000 in
theorem reads_out (s : ByteArray) (A : Option Addr) (c : Nat) (l : List Int) (w : World) (hc : l.length ≤ 9223372036854775807) (h : (s.size : Int) > 1000 ∨ (l.length : Int) > 20) :
    Calls Try.prog 4 #[.string s, .slice A l.length c] w fun e w' => e = .returned (.bool true) ∧ Below w.heap.size w w' := by
  by_cases h1 : (s.size : Int) > 1000
  · go_enter Try.func4, Try.ntmps4
    go_wp2_with (go_at_call 10; refine (live_calls _).mono ?_; rintro e w' ⟨rfl, hb⟩)
    go_ret
    exact ⟨rfl, hb⟩
  · have h2 : (l.length : Int) > 20 := by omega
    have h1' : (s.size : Int) ≤ 1000 := by omega
    clear h h1
    go_enter Try.func4, Try.ntmps4
    go_wp2_with (go_at_call 10; refine (live_calls _).mono ?_; rintro e w' ⟨rfl, hb⟩)
    go_ret
    exact ⟨rfl, hb⟩
set_option maxRecDepth 100000 in
set_option maxHeartbeats 1000000 in
theorem reads_in (s : List UInt8) (A : Option Addr) (c : Nat) (l : List Int) (w : World) (hs : s.length ≤ 1000) (hl : l.length ≤ 20) (hr : Kd.C (Kd.int .i64) w A l.length l) :
    Calls Try.prog 4 #[.string (B s), .slice A l.length c] w fun e w' => e = .returned (.bool true) ∧ Below w.heap.size w w' := by
  have hs' : (B s).size ≤ 1000 := by rw [B_size]; exact hs
  have HR := Lib.hid hr
  clear hr
  go_enter Try.func4, Try.ntmps4
  go_wp2_with fail
  refine (pack_Read.calls _ _ _ w _ (Below.refl _ _) rfl).mono ?_
  rintro e w1 ⟨g, rfl, I, B1, _⟩
  go_wp2_with fail
  have hJ : IsS32 w (w1.alloc (.cells #[.string (B s), .int .i64 0] 32)) w1.heap.size (B s) 0 := IsS32.new w w1 (B s) 0 B1
  have hI : IsS48 w (w1.alloc (.cells #[.string (B s), .int .i64 0] 32)) g (B s) 0 := I.alloc _
  have hB : Below w.heap.size w (w1.alloc (.cells #[.string (B s), .int .i64 0] 32)) := below_alloc B1 _
  have hne : g ≠ w1.heap.size := by have := I.lt; omega
  clear I B1
  generalize w1.alloc (.cells #[.string (B s), .int .i64 0] 32) = W2 at hJ hI hB ⊢
  generalize w1.heap.size = g2 at hJ hne ⊢
  have HJ := Aside0.mk hJ
  have HI := Aside0.mk hI
  have HB := Aside0.mk hB
  have HNE := Aside0.mk hne
  have HA : Aside0 (Alike5 s s 0) := ⟨⟨hs, fun _ => rfl, fun h => absurd rfl h⟩⟩
  clear hJ hI hB hne
  go_loopw [7, 8] (fun n _ wr => ∃ (k : Nat) (L S : List UInt8) (E : Int), k ≤ l.length ∧ n = .int .i64 k ∧ Aside0 (Alike5 L S E) ∧ Aside0 (IsS48 w wr g (B L) E) ∧ Aside0 (IsS32 w wr g2 (B S) E) ∧ Aside0 (Below w.heap.size w wr)) (fun n _ _ => l.length - (intOf n).toNat)
  case atStart => exact ⟨0, s, s, 0, by omega, rfl, HA, HI, HJ, HB⟩
  case round =>
    clear HA HI HJ HB
    obtain ⟨k, L, S, E, hk, rfl, HA, HI, HJ, HB⟩ := hrel
    by_cases hlt : k < l.length
    · obtain ⟨ad, rfl, hcell⟩ : ∃ ad, A = some ad ∧ wr.cell? (ad.add k) = some (.int .i64 (l.getD k 0)) := by
        obtain ⟨ad, hA, hc⟩ := HR.out.2.2 (by omega)
        refine ⟨ad, hA, ?_⟩
        obtain ⟨c, _, hK, hu⟩ := hc k (l.getD k 0) (by rw [List.getD_eq_getElem?_getD, List.getElem?_eq_getElem hlt]; rfl)
        have h1 := hu 0 (.int .i64 (l.getD k 0)) (by rw [hK]; rfl)
        have h1 : w.cell? (ad.add (k * 1 + 0)) = some (.int .i64 (l.getD k 0)) := h1
        rw [Nat.mul_one, Nat.add_zero] at h1
        exact pw_cell_below HB.out h1
      generalize l.getD k 0 = x at hcell
      by_cases x0 : x = 0
      · subst x0
        obtain ⟨n, L', S', E', hp, hq, ha⟩ := sim_number HA.out
        have HP := Aside0.mk hp
        have HQ := Aside0.mk hq
        have HA' := Aside0.mk ha
        clear hp hq ha
        go_wp2_with fail
        refine (pack_Reader_Number.calls 30 g _ _ _ _ _ w _ HI.out HB.out HP.out).mono ?_
        rintro e w3 ⟨rfl, I3, B3, K3⟩
        have J3 : IsS32 w w3 g2 (B S) E := ⟨K3.blk HJ.out.1 (Ne.symm HNE.out) (by simp), HJ.out.2⟩
        have I3 := Aside0.mk I3
        have B3 := Aside0.mk B3
        have J3 := Aside0.mk J3
        clear K3
        go_wp2_with fail
        refine (sluicegateref05_Reader_Number.calls 30 g2 _ _ _ _ _ w _ J3.out B3.out HQ.out).mono ?_
        rintro e w4 ⟨rfl, J4, B4, K4⟩
        have I4 : IsS48 w w4 g (B L') E' := ⟨K4.blk I3.out.1 HNE.out (by simp), I3.out.2⟩
        have I4 := Aside0.mk I4
        have B4 := Aside0.mk B4
        have J4 := Aside0.mk J4
        clear K4
        go_wp2_with fail
        go_roundw
        case rel => exact ⟨k + 1, L', S', E', by omega, by go_num, HA', I4, J4, B4⟩
        case measure => simp [intOf]; omega
      by_cases x1 : x = 1
      · subst x1
        obtain ⟨n, L', S', E', hp, hq, ha⟩ := sim_text HA.out
        have HP := Aside0.mk hp
        have HQ := Aside0.mk hq
        have HA' := Aside0.mk ha
        clear hp hq ha
        go_wp2_with fail
        refine (pack_Reader_Text.calls 30 g _ _ _ _ _ w _ HI.out HB.out HP.out).mono ?_
        rintro e w3 ⟨rfl, I3, B3, K3⟩
        have J3 : IsS32 w w3 g2 (B S) E := ⟨K3.blk HJ.out.1 (Ne.symm HNE.out) (by simp), HJ.out.2⟩
        have I3 := Aside0.mk I3
        have B3 := Aside0.mk B3
        have J3 := Aside0.mk J3
        clear K3
        go_wp2_with fail
        refine (sluicegateref05_Reader_Text.calls 30 g2 _ _ _ _ _ w _ J3.out B3.out HQ.out).mono ?_
        rintro e w4 ⟨rfl, J4, B4, K4⟩
        have I4 : IsS48 w w4 g (B L') E' := ⟨K4.blk I3.out.1 HNE.out (by simp), I3.out.2⟩
        have I4 := Aside0.mk I4
        have B4 := Aside0.mk B4
        have J4 := Aside0.mk J4
        clear K4
        go_wp2_with fail
        go_roundw
        case rel => exact ⟨k + 1, L', S', E', by omega, by go_num, HA', I4, J4, B4⟩
        case measure => simp [intOf]; omega
      by_cases x2 : x = 2
      · subst x2
        obtain ⟨n, L', S', E', hp, hq, ha⟩ := sim_rest HA.out
        have HP := Aside0.mk hp
        have HQ := Aside0.mk hq
        have HA' := Aside0.mk ha
        clear hp hq ha
        go_wp2_with fail
        refine (pack_Reader_Rest.calls g _ _ _ _ _ w _ HI.out HB.out HP.out).mono ?_
        rintro e w3 ⟨rfl, I3, B3, K3⟩
        have J3 : IsS32 w w3 g2 (B S) E := ⟨K3.blk HJ.out.1 (Ne.symm HNE.out) (by simp), HJ.out.2⟩
        have I3 := Aside0.mk I3
        have B3 := Aside0.mk B3
        have J3 := Aside0.mk J3
        clear K3
        go_wp2_with fail
        refine (sluicegateref05_Reader_Rest.calls g2 _ _ _ _ _ w _ J3.out B3.out HQ.out).mono ?_
        rintro e w4 ⟨rfl, J4, B4, K4⟩
        have I4 : IsS48 w w4 g (B L') E' := ⟨K4.blk I3.out.1 HNE.out (by simp), I3.out.2⟩
        have I4 := Aside0.mk I4
        have B4 := Aside0.mk B4
        have J4 := Aside0.mk J4
        clear K4
        go_wp2_with fail
        go_roundw
        case rel => exact ⟨k + 1, L', S', E', by omega, by go_num, HA', I4, J4, B4⟩
        case measure => simp [intOf]; omega
      have e0 : (x == 0) = false := beq_eq_false_iff_ne.mpr x0
      have e1 : (x == 1) = false := beq_eq_false_iff_ne.mpr x1
      have e2 : (x == 2) = false := beq_eq_false_iff_ne.mpr x2
      clear x0 x1 x2
      obtain ⟨n, L', S', E', hp, hq, ha⟩ := sim_end HA.out
      have HP := Aside0.mk hp
      have HQ := Aside0.mk hq
      have HA' := Aside0.mk ha
      clear hp hq ha
      go_wp2_with fail
      refine (pack_Reader_End.calls g _ _ _ _ _ w _ HI.out HB.out HP.out).mono ?_
      rintro e w3 ⟨rfl, I3, B3, K3⟩
      have J3 : IsS32 w w3 g2 (B S) E := ⟨K3.blk HJ.out.1 (Ne.symm HNE.out) (by simp), HJ.out.2⟩
      have I3 := Aside0.mk I3
      have B3 := Aside0.mk B3
      have J3 := Aside0.mk J3
      clear K3
      go_wp2_with fail
      refine (sluicegateref05_Reader_End.calls g2 _ _ _ _ _ w _ J3.out B3.out HQ.out).mono ?_
      rintro e w4 ⟨rfl, J4, B4, K4⟩
      have I4 : IsS48 w w4 g (B L') E' := ⟨K4.blk I3.out.1 HNE.out (by simp), I3.out.2⟩
      have I4 := Aside0.mk I4
      have B4 := Aside0.mk B4
      have J4 := Aside0.mk J4
      clear K4
      go_wp2_with fail
      go_roundw
      case rel => exact ⟨k + 1, L', S', E', by omega, by go_num, HA', I4, J4, B4⟩
      case measure => simp [intOf]; omega
    · obtain rfl : k = l.length := by omega
      obtain ⟨n, L', S', E', hp, hq, _⟩ := sim_end HA.out
      have HP := Aside0.mk hp
      have HQ := Aside0.mk hq
      clear hp hq
      go_wp2_with fail
      refine (pack_Reader_End.calls g _ _ _ _ _ w _ HI.out HB.out HP.out).mono ?_
      rintro e w3 ⟨rfl, I3, B3, K3⟩
      have J3 : IsS32 w w3 g2 (B S) E := ⟨K3.blk HJ.out.1 (Ne.symm HNE.out) (by simp), HJ.out.2⟩
      have I3 := Aside0.mk I3
      have B3 := Aside0.mk B3
      have J3 := Aside0.mk J3
      clear K3
      go_wp2_with fail
      refine (sluicegateref05_Reader_End.calls g2 _ _ _ _ _ w _ J3.out B3.out HQ.out).mono ?_
      rintro e w4 ⟨rfl, I4, B4, K4⟩
      have B4 := Aside0.mk B4
      clear I4 K4
      go_wp2_with fail
      refine (live_calls _).mono ?_
      rintro e w5 ⟨rfl, hb⟩
      go_wp2_with fail
      go_ret
      exact ⟨rfl, below_then B4.out B4.out.size hb⟩
theorem packReads_walk (a0 : ByteArray) (A1 : Option Addr) (c1 : Nat) (l1 : List Int) (w : World) (_hq0 : a0.size ≤ 140737488351232) (hr1 : Kd.C (Kd.int .i64) w A1 l1.length l1) (_hc1 : l1.length ≤ c1) (_hq1 : ∀ x_ ∈ l1, (Lit.int .i64 x_).wf = true) :
    Calls Try.prog 4 #[.string a0, .slice A1 l1.length c1] w fun e w' => e = .returned (.bool true) ∧ Below w.heap.size w w' := by
  by_cases h : (a0.size : Int) > 1000 ∨ (l1.length : Int) > 20
  · exact reads_out a0 A1 c1 l1 w hr1.2.1 h
  · obtain ⟨l, rfl⟩ := exB a0
    rw [B_size] at h
    exact reads_in l A1 c1 l1 w (by omega) (by omega) hr1
end Go.Proofs.Ytamjiofhfoedgaa
