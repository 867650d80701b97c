/- digest.Hex: its walk. -/
import Derived.Test.YtaobnbmpeplefaaDigDefs
import Derived.Test.YtaobnbmpeplefaaBWriteByte
import Derived.Lib.ConvBytes
namespace Go.Proofs.Ytaobnbmpeplefaa
open Go.RowKit Q Go.Proofs.YtaobnbmpeplefaaW.PrintWords Go.Proofs.YtaobnbmpeplefaaW.PrintLast Go.Proofs.YtaobnbmpeplefaaW.PrintMore
def DIG : ByteArray := ⟨#[48, 49, 50, 51, 52, 53, 54, 55, 56, 57, 97, 98, 99, 100, 101, 102]⟩
def dg (n : Nat) : Nat := if n < 10 then 48 + n else 87 + n
theorem dg_lt (n : Nat) (h : n < 16) : dg n < 256 := by unfold dg; split <;> omega
theorem dig_at : ∀ n : Fin 16, (DIG[n.val]'(n.isLt)).toNat = dg n.val := by decide
theorem index_dig (x : Int) (n : Nat) (hx : x = (n : Int)) (hn : n < 16) (W : World) : (Instr.index 9 (.string DIG) (.int .u8 x)).run Try.prog W = .ok (.int .u8 (dg n : Int)) W := by
  subst hx
  have h16 : DIG.size = 16 := rfl
  rw [run_index_string W 9 DIG .u8 (n : Int) Try.underlying9, dif_pos (by omega)]
  have := dig_at ⟨n, hn⟩
  exact congrArg (fun z : Nat => Result.ok (Value.int IntKind.u8 (z : Int)) W) this
def hexS (s : ByteArray) : Nat → List UInt8
  | 0 => []
  | k + 1 => hexS s k ++ [UInt8.ofNat (dg ((byteAt s k).toNat / 16))] ++ [UInt8.ofNat (dg ((byteAt s k).toNat % 16))]
theorem hexS_len (s : ByteArray) (k : Nat) : (hexS s k).length = 2 * k := by
  induction k with
  | zero => rfl
  | succ k ih => simp [hexS, ih]; omega
theorem and15 (x : Nat) (h : x ≤ 255) : Go.bits .and .u8 (x : Int) 15 = ((x % 16 : Nat) : Int) := by
  have : ∀ y : Fin 256, Go.bits .and .u8 (y.val : Int) 15 = ((y.val % 16 : Nat) : Int) := by decide +kernel
  exact this ⟨x, by omega⟩
set_option maxRecDepth 100000 in
set_option maxHeartbeats 400000 in
theorem hex_calls (s : ByteArray) (hs : s.size ≤ 70368744177664) (w : World) :
    Calls Try.prog 12 #[.string s] w fun e w' => e = .returned (.string ⟨(hexS s s.size).toArray⟩) ∧ Below w.heap.size w w' := by
  have hcv := fun (W : World) => Lib.run_convert_string_bytes (P := Try.prog) W 9 31 5 s Try.underlying9 Try.underlying31 Try.underlying5
  go_enter Try.func12, Try.ntmps12
  go_wp2_with fail
  generalize hW1 : Lib.bytesWorld (w.alloc (.cells #[.pointer none, .slice none 0 0] 41)) 5 s = W1
  have hsz : W1.heap.size = w.heap.size + 2 := by rw [← hW1, Lib.bytesWorld_size]; simp
  have hcell : ∀ j : Nat, j < s.size → W1.cell? ⟨w.heap.size + 1, j, none⟩ = some (.int .u8 (byteAt s j)) := by
    intro j hj
    rw [← hW1]
    have := Lib.bytesWorld_cell (w.alloc (.cells #[.pointer none, .slice none 0 0] 41)) 5 s j hj
    simpa [byteAt] using this
  have hbw : Below (w.heap.size + 1) (w.alloc (.cells #[.pointer none, .slice none 0 0] 41)) W1 := by
    subst hW1
    refine ⟨rfl, rfl, rfl, by rw [Lib.bytesWorld_size]; simp, fun i hi => ?_⟩
    rw [Lib.bytesWorld_at_old _ _ _ _ (by simp; omega)]
  have hb1 : Below w.heap.size w W1 := ((Below.refl _ _).alloc (Nat.le_refl _) _).trans (hbw.mono (by omega))
  have hbd : Bd (w.heap.size + 2) w.heap.size [] W1 := Bd.fresh _ _ _ ((hbw.block _ (by omega)).trans (heap_alloc_new w _))
  have G1 := Lib.hid hcell
  have G2 := Lib.hid hsz
  have G3 := Lib.hid hb1
  have G4 := Aside0.mk hbd
  clear hW1 hcv hsz hcell hbw hb1 hbd
  go_loopw [5, 9] (fun _ n wr => ∃ k : Nat, k ≤ s.size ∧ n = .int .i64 k ∧ Aside0 (Bd (w.heap.size + 2) w.heap.size (hexS s k) wr) ∧ Aside0 (Bf (w.heap.size + 2) w.heap.size W1 wr)) (fun _ n _ => s.size - (intOf n).toNat)
  case atStart => exact ⟨0, by omega, rfl, G4, ⟨Bf.refl _ _ _⟩⟩
  case round =>
    clear G4
    obtain ⟨k, hk, rfl, HB, HF⟩ := hrel
    by_cases hlt : k < s.size
    · have hc := HF.out.cell (G1.out k hlt) (by simp) (by simp)
      have hr := byteAt_rng s k
      obtain ⟨x, hx⟩ : ∃ x : Nat, byteAt s k = (x : Int) := ⟨(byteAt s k).toNat, by omega⟩
      have hx8 : x ≤ 255 := by omega
      have hS : Hid (hexS s (k + 1) = hexS s k ++ [UInt8.ofNat (dg (x / 16))] ++ [UInt8.ofNat (dg (x % 16))]) := Lib.hid (by rw [hexS, hx]; rfl)
      rw [hx] at hc
      clear hr hx
      have hd1 : ∀ W : World, (Instr.index 9 (.string ⟨#[48, 49, 50, 51, 52, 53, 54, 55, 56, 57, 97, 98, 99, 100, 101, 102]⟩) (.int .u8 ((x : Int) / 16))).run Try.prog W = .ok (.int .u8 (dg (x / 16) : Int)) W := fun W => index_dig _ (x / 16) (by omega) (by omega) W
      have hd2 : ∀ W : World, (Instr.index 9 (.string ⟨#[48, 49, 50, 51, 52, 53, 54, 55, 56, 57, 97, 98, 99, 100, 101, 102]⟩) (.int .u8 ((x : Int) % 16))).run Try.prog W = .ok (.int .u8 (dg (x % 16) : Int)) W := fun W => index_dig _ (x % 16) (by omega) (by omega) W
      have hl := hexS_len s k
      have hg := HF.out.size
      have q1 : dg (x / 16) < 256 := dg_lt (x / 16) (by omega)
      have q2 : dg (x % 16) < 256 := dg_lt (x % 16) (by omega)
      have q3 : (hexS s k).length + 1 ≤ 140737488355328 := by omega
      have q4 : (hexS s k ++ [UInt8.ofNat (dg (x / 16))]).length + 1 ≤ 140737488355328 := by rw [List.length_append, hl]; simp only [List.length_cons, List.length_nil]; omega
      have q5 : w.heap.size + 2 ≤ wr.heap.size := by have := G2.out; omega
      generalize dg (x / 16) = d1 at *
      generalize dg (x % 16) = d2 at *
      go_wp2_with fail
      have hh := bWriteByte (w.heap.size + 2) w.heap.size (hexS s k) d1 wr q1 HB.out q3 q5
      refine Calls.mono hh ?_
      clear hh
      rintro e w2 ⟨rfl, hB2, hF2⟩
      have HF := Aside0.mk (HF.out.trans hF2)
      have hg2 := hF2.size
      have HB2 := Aside0.mk hB2
      clear hB2 hF2 hc
      go_wp2_with fail
      have hh := bWriteByte (w.heap.size + 2) w.heap.size (hexS s k ++ [UInt8.ofNat d1]) d2 w2 q2 HB2.out q4 (Nat.le_trans q5 hg2)
      refine Calls.mono hh ?_
      clear hh
      rintro e w3 ⟨rfl, hB3, hF3⟩
      have HF := Aside0.mk (HF.out.trans hF3)
      have HB3 := Aside0.mk hB3
      clear hB3 hF3
      go_wp2_with fail
      go_roundw
      case rel => exact ⟨k + 1, by omega, by go_num, ⟨by rw [hS.out]; exact HB3.out⟩, HF⟩
      case measure => simp [intOf]; omega
    · obtain rfl : k = s.size := by omega
      go_wp2_with fail
      have hh := bString (w.heap.size + 2) w.heap.size (hexS s s.size) wr HB.out
      refine Calls.mono hh ?_
      clear hh
      rintro e w2 ⟨rfl, hF2⟩
      go_wp2_with fail
      go_ret
      exact ⟨rfl, G3.out.trans ((HF.out.trans hF2).below (by omega) (by omega))⟩
end Go.Proofs.Ytaobnbmpeplefaa
