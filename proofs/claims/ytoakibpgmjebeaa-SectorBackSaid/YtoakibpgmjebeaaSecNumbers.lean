/- sector.numbers: its walk. -/
import Derived.Test.YtoakibpgmjebeaaPackFn
import Derived.Test.YtoakibpgmjebeaaBWriteString
namespace Go.Proofs.Ytoakibpgmjebeaa
open Go.RowKit Q Go.Proofs.YtoakibpgmjebeaaW.PrintWords Go.Proofs.YtoakibpgmjebeaaW.PrintLast Go.Proofs.YtoakibpgmjebeaaW.PrintMore
/-- The bytes of the first k numbers. -/
def encK (l : List Nat) : Nat → List UInt8
  | 0 => []
  | k + 1 => encK l k ++ enc (l.getD k 0)
theorem encK_len (l : List Nat) (h : ∀ k, l.getD k 0 < 2 ^ 56) (k : Nat) : (encK l k).length ≤ 8 * k := by
  induction k with
  | zero => exact Nat.le_refl _
  | succ k ih =>
    rw [encK, List.length_append]
    have := enc_len8 (h k)
    omega
theorem number_B (n : Nat) (h : n < 2 ^ 56) (w : World) : Calls Try.prog 42 #[.int .i64 (n : Int)] w fun e w' => e = .returned (.string (B (enc n))) ∧ Below w.heap.size w w' :=
  pack_Number.calls 20 _ _ w (number_f n 20 h (Nat.le_refl _))
theorem below2 {w w1 w2 : World} {B : Nat} (a : Below B w w1) (hB : B ≤ w1.heap.size) (b : Below w1.heap.size w1 w2) : Below B w w2 := a.trans (b.mono hB)
set_option maxRecDepth 100000 in
set_option maxHeartbeats 400000 in
theorem numbers_calls (g c : Nat) (l : List Nat) (n : Nat) (hn : n ≤ 100) (_hl : l.length = n) (hb : ∀ k, l.getD k 0 < 2 ^ 56) (w : World) (hg : g < w.heap.size) (hc : ∀ j, j < n → w.cell? ⟨g, j, none⟩ = some (.int .i64 (l.getD j 0 : Nat))) :
    Calls Try.prog 22 #[.slice (some ⟨g, 0, none⟩) n c] w fun e w' => e = .returned (.string (B (encK l n))) ∧ Below w.heap.size w w' := by
  have HC := Lib.hid hc
  have HG := Lib.hid hg
  have HB := Lib.hid hb
  have HL := Lib.hid (encK_len l hb)
  clear hc hg hb _hl
  go_enter Try.func22, Try.ntmps22
  go_wp2_with fail
  have HD0 : Aside0 (Bd (w.heap.size + 1) w.heap.size [] (w.alloc (.cells #[.pointer none, .slice none 0 0] 75))) := ⟨Bd.new _ w⟩
  have HF0 : Aside0 (Bf (w.heap.size + 1) w.heap.size (w.alloc (.cells #[.pointer none, .slice none 0 0] 75)) (w.alloc (.cells #[.pointer none, .slice none 0 0] 75))) := ⟨Bf.refl _ _ _⟩
  have HS0 : Aside0 ((w.alloc (.cells #[.pointer none, .slice none 0 0] 75)).heap.size = w.heap.size + 1) := ⟨by simp⟩
  have HB0 : Aside0 (Below w.heap.size w (w.alloc (.cells #[.pointer none, .slice none 0 0] 75))) := ⟨(Below.refl _ _).alloc (Nat.le_refl _) _⟩
  generalize w.alloc (.cells #[.pointer none, .slice none 0 0] 75) = w2 at *
  go_loopw [8] (fun i wr => ∃ k : Nat, k ≤ n ∧ i = .int .i64 k ∧ Aside0 (Bd (w.heap.size + 1) w.heap.size (encK l k) wr) ∧ Aside0 (Bf (w.heap.size + 1) w.heap.size w2 wr)) (fun i _ => n - (intOf i).toNat)
  case atStart => exact ⟨0, by omega, rfl, HD0, HF0⟩
  case round =>
    clear HD0 HF0
    obtain ⟨k, hk, rfl, HD0, HF0⟩ := hrel
    by_cases hlt : k < n
    · have hcw := HF0.out.cell (a := ⟨g, k, none⟩) ((HB0.out.cell HG.out).trans (HC.out k hlt)) (by have := HG.out; show g < w.heap.size + 1; omega) (by have := HG.out; show g ≠ w.heap.size; omega)
      have hE : Hid (encK l (k + 1) = encK l k ++ enc (l.getD k 0)) := Lib.hid rfl
      have hx := Lib.hid (HB.out k)
      have hlen := HL.out k
      generalize l.getD k 0 = x at *
      have hbs : w.heap.size + 1 ≤ wr.heap.size := by have := HS0.out; have := HF0.out.size; omega
      have hne := enc_ne x
      have hl8 := enc_len8 hx.out
      have HNE := Lib.hid hne
      clear hne
      go_wp2_with fail
      refine Calls.mono (number_B x hx.out wr) ?_
      rintro e w3 ⟨rfl, b3⟩
      have HD0 := Aside0.mk (HD0.out.keep b3)
      have HF0 := Aside0.mk (HF0.out.trans (Bf.of_below b3 hbs))
      have hbs3 := Nat.le_trans hbs b3.size
      clear b3 hcw
      go_wp2_with fail
      refine Calls.mono (bWriteString (w.heap.size + 1) w.heap.size (encK l k) (enc x) w3 HD0.out HNE.out (by omega) hbs3) ?_
      rintro e w4 ⟨rfl, hD4, hF4⟩
      rw [← hE.out] at hD4
      have HD0 := Aside0.mk hD4
      have HF0 := Aside0.mk (HF0.out.trans hF4)
      clear hD4 hF4
      go_wp2_with fail
      go_roundw
      case rel => exact ⟨k + 1, by omega, by go_num, HD0, HF0⟩
      case measure => simp [intOf]; omega
    · obtain rfl : k = n := by omega
      go_wp2_with fail
      refine Calls.mono (bString (w.heap.size + 1) w.heap.size (encK l k) wr HD0.out) ?_
      rintro e w3 ⟨rfl, hF3⟩
      go_wp2_with fail
      go_ret
      exact ⟨rfl, HB0.out.trans ((HF0.out.trans hF3).below (by omega) (Nat.le_refl _))⟩
end Go.Proofs.Ytoakibpgmjebeaa
