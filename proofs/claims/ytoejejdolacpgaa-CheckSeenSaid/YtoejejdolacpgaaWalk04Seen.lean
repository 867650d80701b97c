/- CheckSeen: its walk. -/
import Derived.Test.YtoejejdolacpgaaLive04
import Derived.Test.YtoejejdolacpgaaTurn
import Derived.WalkKit
import Derived.WalkSpells
import Derived.WalkLawsBesides
import Derived.Lib.Hide
import Derived.Lib.ConvBytes
namespace Go.Proofs.Ytoejejdolacpgaa
open Go.RowKit Q Go.Proofs.YtoejejdolacpgaaW.PrintWords Go.Proofs.YtoejejdolacpgaaW.PrintLast Go.Proofs.YtoejejdolacpgaaW.PrintMore
theorem live_calls4 (w : World) : Calls Try.prog 9 #[] w fun e w' => e = .returned (.bool true) ∧ Below w.heap.size w w' := sluicegatelaw04_live.calls true w live_true
set_option maxRecDepth 100000 in
set_option maxHeartbeats 400000 in
theorem seen_in (s : ByteArray) (T : List UInt8) (k v : Nat) (w : World) (hs : s.size ≤ 500) (hv : ((v : Int) == 0) = false) (ht : check_Seal.f s = some (B T)) (h4 : T.length ≤ 504) (hk : k + 4 ≤ T.length) (_hv1 : v ≤ 4294967295) (hO : check_Open.f (B (turn T k v 4)) = some (B [], 5)) :
    Calls Try.prog 5 #[.string s, .int .i64 (k : Int), .int .u32 (v : Int)] w fun e w' => e = .returned (.bool true) ∧ Below w.heap.size w w' := by
  have HT := Lib.hid ht
  have hcv := fun (W : World) => Lib.run_convert_string_bytes (P := Try.prog) W 9 31 5 (B T) Try.underlying9 Try.underlying31 Try.underlying5
  have hts : (B T).size ≤ 504 := by rw [B_size]; exact h4
  have h4' : 4 ≤ (B T).size := by rw [B_size]; omega
  have hk' : k + 4 ≤ (B T).size := by rw [B_size]; omega
  clear ht h4
  go_enter Try.func5, Try.ntmps5
  go_wp2_with fail
  refine (check_Seal.calls _ (B T) _ HT.out).mono ?_
  rintro e w1 ⟨rfl, b1⟩
  go_wp2_with fail
  have HR := Aside0.mk (row_of w1 5 T)
  have HB := Aside0.mk (below_bytes b1 5 (B T))
  have HF := Aside0.mk hO
  have GE := Aside0.mk b1.size
  clear hcv b1 hO
  generalize Lib.bytesWorld w1 5 (B T) = W1 at HR HB ⊢
  generalize w1.heap.size = g at HR GE ⊢
  generalize grownCap w1 (B T).size 0 5 = cp
  go_loopw [9] (fun n wr => ∃ j : Nat, j ≤ 4 ∧ n = .int .i64 j ∧ Aside0 (Row wr g (turn T k v j)) ∧ Aside0 (Below w.heap.size w wr)) (fun n _ => 4 - (intOf n).toNat)
  case atStart => exact ⟨0, by omega, rfl, HR, HB⟩
  case round =>
    clear HR HB
    obtain ⟨j, hj, rfl, HR, HB⟩ := hrel
    by_cases hlt : j < 4
    · have hc := HR.out (k + j) (by rw [turn_len]; omega)
      go_wp2_with fail
      go_roundw
      case rel => exact ⟨j + 1, by omega, by go_num, ⟨row_turn HR.out (by omega)⟩, ⟨HB.out.setCell GE.out _⟩⟩
      case measure => simp [intOf]; omega
    · obtain rfl : j = 4 := by omega
      have hst := row_string (P := Try.prog) (cap := cp) HR.out (B T).size (by rw [turn_len, B_size]) 31 5 9 Try.underlying31 Try.underlying5 Try.underlying9
      go_wp2_with fail
      clear hst
      refine (check_Open.calls _ (B []) 5 _ HF.out).mono ?_
      rintro e w3 ⟨rfl, b3⟩
      go_wp2_with fail
      refine (live_calls4 _).mono ?_
      rintro e w4 ⟨rfl, b4⟩
      go_wp2_with fail
      go_ret
      exact ⟨rfl, below_then (below_then HB.out HB.out.size b3) (Nat.le_trans HB.out.size b3.size) b4⟩
set_option maxRecDepth 100000 in
set_option maxHeartbeats 400000 in
theorem seen_out (s : ByteArray) (k v : Int) (w : World) (hs0 : s.size ≤ 140737488351232) (h : (s.size : Int) > 500 ∨ v = 0) :
    Calls Try.prog 5 #[.string s, .int .i64 k, .int .u32 v] w fun e w' => e = .returned (.bool true) ∧ Below w.heap.size w w' := by
  by_cases h1 : (s.size : Int) > 500
  · clear h
    go_enter Try.func5, Try.ntmps5
    go_wp2_with (go_at_call 9; refine (live_calls4 _).mono ?_; rintro e w' ⟨rfl, hb⟩)
    go_ret
    exact ⟨rfl, hb⟩
  · have h2 : v = 0 := by omega
    subst h2
    have h1' : (s.size : Int) ≤ 500 := by omega
    clear h h1
    go_enter Try.func5, Try.ntmps5
    go_wp2_with (go_at_call 9; refine (live_calls4 _).mono ?_; rintro e w' ⟨rfl, hb⟩)
    go_ret
    exact ⟨rfl, hb⟩
set_option maxRecDepth 100000 in
set_option maxHeartbeats 400000 in
theorem seen_off (s t : ByteArray) (k v : Int) (w : World) (hs : s.size ≤ 500) (hv : (v == 0) = false) (ht : check_Seal.f s = some t) (h4 : 4 ≤ t.size ∧ t.size ≤ 504) (hk : k < 0 ∨ (t.size : Int) - 4 < k) :
    Calls Try.prog 5 #[.string s, .int .i64 k, .int .u32 v] w fun e w' => e = .returned (.bool true) ∧ Below w.heap.size w w' := by
  have HT := Lib.hid ht
  obtain ⟨h4a, h4b⟩ := h4
  clear ht
  by_cases h1 : k < 0
  · clear hk
    go_enter Try.func5, Try.ntmps5
    go_wp2_with fail
    refine (check_Seal.calls _ t _ HT.out).mono ?_
    rintro e w1 ⟨rfl, b1⟩
    go_wp2_with fail
    refine (live_calls4 _).mono ?_
    rintro e w4 ⟨rfl, b4⟩
    go_wp2_with fail
    go_ret
    exact ⟨rfl, below_then b1 b1.size b4⟩
  · have h2 : (t.size : Int) - 4 < k := by omega
    have h1' : 0 ≤ k := by omega
    clear hk h1
    go_enter Try.func5, Try.ntmps5
    go_wp2_with fail
    refine (check_Seal.calls _ t _ HT.out).mono ?_
    rintro e w1 ⟨rfl, b1⟩
    go_wp2_with fail
    refine (live_calls4 _).mono ?_
    rintro e w4 ⟨rfl, b4⟩
    go_wp2_with fail
    go_ret
    exact ⟨rfl, below_then b1 b1.size b4⟩
theorem checkSeen_walk (a0 : ByteArray) (a1 : Int) (a2 : Int) (w : World) (hq0 : a0.size ≤ 140737488351232) (_hq1 : (Lit.int .i64 a1).wf = true) (hq2 : (Lit.int .u32 a2).wf = true) :
    Calls Try.prog 5 #[.string a0, .int .i64 a1, .int .u32 a2] w fun e w' => e = .returned (.bool true) ∧ Below w.heap.size w w' := by
  have hv : 0 ≤ a2 ∧ a2 ≤ 4294967295 := by
    simp [Lit.wf, IntKind.min, IntKind.max, IntKind.signed, IntKind.bits] at hq2
    omega
  by_cases h : (a0.size : Int) > 500 ∨ a2 = 0
  · exact seen_out a0 a1 a2 w hq0 h
  · obtain ⟨l, rfl⟩ := exB a0
    obtain ⟨v, rfl⟩ := Int.eq_ofNat_of_zero_le hv.1
    have hl : l.length ≤ 500 := by rw [B_size] at h; omega
    have hseal := seal_f l (by omega)
    have hlen := sealL_len l
    have hv0 : ((v : Int) == 0) = false := by rw [beq_eq_false_iff_ne]; omega
    by_cases hk : a1 < 0 ∨ ((B (sealL l)).size : Int) - 4 < a1
    · exact seen_off _ _ a1 v w (by rw [B_size]; exact hl) hv0 hseal (by rw [B_size, hlen]; omega) hk
    · obtain ⟨k, rfl⟩ := Int.eq_ofNat_of_zero_le (a := a1) (by omega)
      rw [B_size] at hk
      refine seen_in _ (sealL l) k v w (by rw [B_size]; exact hl) hv0 hseal (by omega) (by omega) (by omega) ?_
      rw [open_f _ (by rw [turn_len]; omega)]
      have hb := turned_bad (sealL l) k (BitVec.ofNat 32 v) (by omega) (by intro e; have := congrArg BitVec.toNat e; rw [BitVec.toNat_ofNat] at this; simp at this; omega) (sealed_seal l)
      rw [BitVec.toNat_ofNat, Nat.mod_eq_of_lt (by omega)] at hb
      rcases openL_cases (turn (sealL l) k v 4) with ⟨h4, _⟩ | ⟨_, _, e⟩ | ⟨u, hu, _⟩
      · rw [turn_len] at h4; omega
      · rw [e]
      · exact absurd (by rw [hu]; exact sealed_seal u) hb
end Go.Proofs.Ytoejejdolacpgaa
