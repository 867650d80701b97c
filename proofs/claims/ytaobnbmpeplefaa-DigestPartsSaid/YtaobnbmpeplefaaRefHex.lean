/- sluicegateref03.Hex: its walk. -/
import Derived.Test.YtaobnbmpeplefaaDigHex
import Derived.Test.YtaobnbmpeplefaaBytes
namespace Go.Proofs.Ytaobnbmpeplefaa
open Go.RowKit Q Go.Proofs.YtaobnbmpeplefaaW.PrintWords Go.Proofs.YtaobnbmpeplefaaW.PrintLast Go.Proofs.YtaobnbmpeplefaaW.PrintMore
theorem dig_ext : ∀ n : Fin 16, DIG.extract n.val (n.val + 1) = ⟨#[UInt8.ofNat (dg n.val)]⟩ := by decide
theorem slice_dig (x y : Int) (n : Nat) (hx : x = (n : Int)) (hy : y = (n : Int) + 1) (hn : n < 16) (W : World) : (Instr.slice 9 (.string DIG) (some (.int .u8 x)) (some (.int .u8 y)) none).run Try.prog W = .ok (.string ⟨#[UInt8.ofNat (dg n)]⟩) W := by
  subst hx hy
  have h16 : DIG.size = 16 := rfl
  have e := dig_ext ⟨n, hn⟩
  simp only at e
  simp [Instr.slice, run_underlying Try.underlying9, Instr.sliceBounds, run_sliceBound, h16, show ((n : Int) + 1).toNat = n + 1 by omega, e, (by omega : (n : Int) + 1 ≤ 16), (by omega : 0 ≤ (n : Int) + 1), (by omega : (n : Int) ≤ (n : Int) + 1)]
set_option maxRecDepth 100000 in
set_option maxHeartbeats 400000 in
theorem refhex_calls (s : ByteArray) (hs : s.size ≤ 70368744177664) (w : World) :
    Calls Try.prog 13 #[.string s] w fun e w' => e = .returned (.string ⟨(hexS s s.size).toArray⟩) ∧ Below w.heap.size w w' := by
  go_enter Try.func13, Try.ntmps13
  go_wp2_with fail
  go_loopw [4, 5] (fun v n wr => ∃ k : Nat, k ≤ s.size ∧ n = .int .i64 k ∧ v = .string ⟨(hexS s k).toArray⟩ ∧ Aside0 (Drawn0 w wr)) (fun _ n _ => s.size - (intOf n).toNat)
  case atStart => exact ⟨0, by omega, rfl, rfl, ⟨Drawn0.refl w⟩⟩
  case round =>
    obtain ⟨k, hk, rfl, rfl, HB⟩ := hrel
    by_cases hlt : k < s.size
    · have hr := byteAt_rng s k
      have hix := index_at s (k : Int) k rfl hlt
      obtain ⟨x, hx⟩ : ∃ x : Nat, byteAt s k = (x : Int) := ⟨(byteAt s k).toNat, by omega⟩
      have hx8 : (x : Int) ≤ 255 := by omega
      have hS : Hid ((⟨(hexS s k).toArray⟩ : ByteArray) ++ ⟨#[UInt8.ofNat (dg (x / 16))]⟩ ++ ⟨#[UInt8.ofNat (dg (x % 16))]⟩ = ⟨(hexS s (k + 1)).toArray⟩) := Lib.hid (by
        have : ∀ a : UInt8, (⟨#[a]⟩ : ByteArray) = B [a] := fun _ => rfl
        show B (hexS s k) ++ _ ++ _ = B (hexS s (k + 1))
        rw [this, this, B_append, B_append, hexS, hx]
        rfl)
      have hl : (⟨(hexS s k).toArray⟩ : ByteArray).size = 2 * k := by
        show (hexS s k).toArray.size = _
        rw [List.size_toArray, hexS_len]
      rw [hx] at hix
      clear hr hx
      have d1 : ∀ W, (Instr.slice 9 (.string ⟨#[48, 49, 50, 51, 52, 53, 54, 55, 56, 57, 97, 98, 99, 100, 101, 102]⟩) (some (.int .u8 ((x : Int) / 16))) (some (.int .u8 ((x : Int) / 16 + 1))) none).run Try.prog W = .ok (.string ⟨#[UInt8.ofNat (dg (x / 16))]⟩) W := fun W => slice_dig _ _ (x / 16) (by omega) (by omega) (by omega) W
      have d2 : ∀ W, (Instr.slice 9 (.string ⟨#[48, 49, 50, 51, 52, 53, 54, 55, 56, 57, 97, 98, 99, 100, 101, 102]⟩) (some (.int .u8 ((x : Int) % 16))) (some (.int .u8 ((x : Int) % 16 + 1))) none).run Try.prog W = .ok (.string ⟨#[UInt8.ofNat (dg (x % 16))]⟩) W := fun W => slice_dig _ _ (x % 16) (by omega) (by omega) (by omega) W
      have s1 : ∀ c : UInt8, (⟨#[c]⟩ : ByteArray).size = 1 := fun _ => rfl
      generalize (⟨(hexS s k).toArray⟩ : ByteArray) = t at *
      go_wp2_with fail
      go_quiet (fail)
      have HB := Aside0.mk (HB.out.step nq)
      rw [hS.out]
      clear hix d1 d2
      go_wp2_with fail
      go_roundw
      case rel => exact ⟨k + 1, by omega, by go_num, rfl, HB⟩
      case measure => simp [intOf]; omega
    · obtain rfl : k = s.size := by omega
      go_wp2_with fail
      go_ret
      exact ⟨rfl, HB.out.below⟩
end Go.Proofs.Ytaobnbmpeplefaa
