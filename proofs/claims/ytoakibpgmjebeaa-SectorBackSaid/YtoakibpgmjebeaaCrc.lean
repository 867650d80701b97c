/- check.Of (program sluicegate) told as a plain function: its walk, and the contract that its callers use; no condition but the string's size. -/
import Derived.Test.YtoakibpgmjebeaaProg
import Derived.WalkKit
import Derived.WalkSpells
import Derived.WalkLawsBesides
import Derived.Lib.ConvBytes
import Derived.Lib.Hide
import Derived.Laws.BitsLemmas
import Derived.Laws.BytesArg
import Derived.LoopN
namespace Go.Proofs.Ytoakibpgmjebeaa
open Go.RowKit
theorem bits_rng_u32 (op : BinOp) (a b : Int) : 0 ≤ Go.bits op .u32 a b ∧ Go.bits op .u32 a b ≤ 4294967295 := by
  unfold Go.bits
  simp only [IntKind.wrap_u32]
  omega
theorem bits_rng_u8 (op : BinOp) (a b : Int) : 0 ≤ Go.bits op .u8 a b ∧ Go.bits op .u8 a b ≤ 255 := by
  unfold Go.bits
  simp only [IntKind.wrap_u8]
  omega
/-- One step of the sum, on a number. -/
def crcR (i : Int) : Int := Go.bits .xor .u32 (i / 2) (2197175160 * Go.bits .and .u32 i 1 % 4294967296)
def crcN : Nat → Int → Int
  | 0, i => i
  | k + 1, i => crcR (crcN k i)
theorem crcR_rng (i : Int) : 0 ≤ crcR i ∧ crcR i ≤ 4294967295 := bits_rng_u32 _ _ _
set_option maxHeartbeats 400000 in
theorem out_calls (i : Int) (h0 : 0 ≤ i) (h1 : i ≤ 4294967295) (w : World) :
    Calls Try.prog 49 #[.int .u32 i] w fun e w' => e = .returned (.int .u32 (crcN 8 i)) ∧ w' = w := by
  go_enter Try.func49, Try.ntmps49
  go_wp2
  go_loop [0, 3] (fun x n => ∃ k : Nat, k ≤ 8 ∧ n = .int .i64 k ∧ x = .int .u32 (crcN k i)) (fun _ n => 8 - (intOf n).toNat)
  case atStart => exact ⟨0, by omega, rfl, rfl⟩
  case round =>
    obtain ⟨k, hk, rfl, rfl⟩ := hrel
    have hr : 0 ≤ crcN k i ∧ crcN k i ≤ 4294967295 := by
      cases k with
      | zero => exact ⟨h0, h1⟩
      | succ k => exact crcR_rng _
    by_cases hlt : k < 8
    · go_wp2
      go_round
      case rel => exact ⟨k + 1, by omega, by go_num, rfl⟩
      case measure => simp [intOf]; omega
    · obtain rfl : k = 8 := by omega
      go_wp2
      go_ret
      exact ⟨rfl, rfl⟩
/-- A row of numbers, as cells. -/
def arr (k : IntKind) (xs : List Int) : Array Value := (xs.map (Value.int k)).toArray
theorem arr_set (k : IntKind) (xs : List Int) (i : Nat) (v : Int) : (arr k xs).setIfInBounds i (.int k v) = arr k (xs.set i v) := by
  simp [arr, List.map_set]
theorem arr_get (k : IntKind) (xs : List Int) (i : Nat) (_h : i < xs.length) : (arr k xs)[i]? = some (.int k (xs.getD i 0)) := by
  simp [arr, _h, List.getD_eq_getElem?_getD]
def zs (n : Nat) : List Int := List.replicate n 0
theorem zero256 (w : World) : (zeroValue 85).run Try.prog w = .ok (.agg (arr .u32 (zs 256))) w := by kernel_rfl
attribute [local go_sem] arr_set
def tabK (k : Nat) : List Int := (List.range 256).map fun j => if j < k then crcN 8 j else 0
theorem tabK_len (k : Nat) : (tabK k).length = 256 := by simp [tabK]
theorem tabK_zero : tabK 0 = zs 256 := by simp [tabK, zs, List.map_const']
theorem tabK_succ (k : Nat) (_h : k < 256) : (tabK k).set k (crcN 8 k) = tabK (k + 1) := by
  apply List.ext_getElem
  · simp [tabK]
  · intro i h1 h2
    simp [tabK, List.getElem_set] at h1 h2 ⊢
    by_cases e : k = i
    · subst e; simp
    · have : (i < k + 1) ↔ (i < k) := by omega
      simp [e, this]
theorem tabK_full (j : Nat) (h : j < 256) : (tabK 256).getD j 0 = crcN 8 j := by
  simp [tabK, List.getD_eq_getElem?_getD, h]
/-- The sum's number behind one more byte. -/
def crcB (x c : Int) : Int := Go.bits .xor .u32 (crcN 8 (Go.bits .xor .u8 (x % 256) c)) (x / 256)
def byteAt (s : ByteArray) (k : Nat) : Int := ((s.data.toList.getD k 0).toNat : Int)
def crcS (s : ByteArray) : Nat → Int
  | 0 => 4294967295
  | k + 1 => crcB (crcS s k) (byteAt s k)
def ofS (s : ByteArray) : Int := Go.bits .xor .u32 4294967295 (crcS s s.size)
theorem byteAt_rng (s : ByteArray) (k : Nat) : 0 ≤ byteAt s k ∧ byteAt s k ≤ 255 := by
  unfold byteAt
  have := (s.data.toList.getD k 0).toNat_lt
  omega
theorem crcS_rng (s : ByteArray) (k : Nat) : 0 ≤ crcS s k ∧ crcS s k ≤ 4294967295 := by
  cases k with
  | zero => simp [crcS]
  | succ k => rw [crcS]; unfold crcB; exact bits_rng_u32 _ _ _
theorem of_world (w : World) (s : ByteArray) (W1 : World) (h : Lib.bytesWorld (w.alloc (.cells (arr .u32 (tabK 256)) 85)) 5 s = W1) :
    (∀ j : Int, 0 ≤ j → j < 256 → W1.cell? ⟨w.heap.size, j.toNat, none⟩ = some (.int .u32 (crcN 8 j))) ∧ (∀ j : Nat, j < s.size → W1.cell? ⟨w.heap.size + 1, j, none⟩ = some (.int .u8 (byteAt s j))) ∧ Below w.heap.size w W1 := by
  subst h
  refine ⟨fun j h0 hj => ?_, fun j hj => ?_, ?_⟩
  · obtain ⟨j, rfl⟩ := Int.eq_ofNat_of_zero_le h0
    rw [Int.toNat_natCast]
    have hj : j < 256 := by omega
    rw [Lib.bytesWorld_old _ _ _ _ (by simp), World.cell?_alloc_new, arr_get _ _ _ (by rw [tabK_len]; exact hj), tabK_full j hj]
  · have := Lib.bytesWorld_cell (w.alloc (.cells (arr .u32 (tabK 256)) 85)) 5 s j hj
    simpa [byteAt] using this
  · have h1 : Below w.heap.size w (w.alloc (.cells (arr .u32 (tabK 256)) 85)) := (Below.refl _ _).alloc (Nat.le_refl _) _
    refine h1.trans ⟨rfl, rfl, rfl, ?_, fun i hi => ?_⟩
    · rw [Lib.bytesWorld_size]; simp
    · rw [Lib.bytesWorld_at_old _ _ _ _ (by simp; omega)]
set_option maxRecDepth 100000 in
set_option maxHeartbeats 400000 in
theorem of_calls (s : ByteArray) (hs : s.size ≤ 140737488355328) (w : World) :
    Calls Try.prog 40 #[.string s] w fun e w' => e = .returned (.int .u32 (ofS s)) ∧ Below w.heap.size w w' := by
  have hz := zero256
  have hcv := fun (W : World) => Lib.run_convert_string_bytes (P := Try.prog) W 9 48 5 s Try.underlying9 Try.underlying48 Try.underlying5
  go_enter Try.func40, Try.ntmps40
  go_wp2_with fail
  go_loopw [5, 9] (fun _ n wr => ∃ k : Nat, k ≤ 256 ∧ n = .int .i64 k ∧ wr = w.alloc (.cells (arr .u32 (tabK k)) 85)) (fun _ n _ => 256 - (intOf n).toNat)
  case atStart => exact ⟨0, by omega, rfl, by rw [tabK_zero]⟩
  case round =>
    obtain ⟨k, hk, rfl, rfl⟩ := hrel
    by_cases hlt : k < 256
    · have hc := arr_get .u32 (tabK k) k (by rw [tabK_len]; exact hlt)
      go_wp2_with (go_at_call 49; refine (out_calls _ (by omega) (by omega) _).mono ?_; rintro e w' ⟨rfl, rfl⟩)
      go_roundw
      case rel => exact ⟨k + 1, by omega, by go_num, by rw [tabK_succ _ hlt]⟩
      case measure => simp [intOf]; omega
    · obtain rfl : k = 256 := by omega
      go_wp2_with fail
      generalize hW1 : Lib.bytesWorld (w.alloc (.cells (arr .u32 (tabK 256)) 85)) 5 s = W1
      obtain ⟨F1, F2, F3⟩ := of_world w s W1 hW1
      clear hW1 hz hcv
      have G1 := Lib.hid F1
      have G2 := Lib.hid F2
      have G3 := Lib.hid F3
      clear F1 F2 F3
      go_loop [6, 8, 22] (fun x _ n => ∃ k : Nat, k ≤ s.size ∧ n = .int .i64 k ∧ x = .int .u32 (crcS s k)) (fun _ _ n => s.size - (intOf n).toNat)
      case atStart => exact ⟨0, by omega, rfl, rfl⟩
      case round =>
        obtain ⟨k, hk, rfl, rfl⟩ := hrel
        have hr := crcS_rng s k
        have hb := byteAt_rng s k
        have hx := bits_rng_u8 .xor (crcS s k % 256) (byteAt s k)
        by_cases hlt : k < s.size
        · have c2 := G2.out k hlt
          have c1 := G1.out (Go.bits .xor .u8 (crcS s k % 256) (byteAt s k)) (by omega) (by omega)
          go_wp2
          go_round
          case rel => exact ⟨k + 1, by omega, by go_num, rfl⟩
          case measure => simp [intOf]; omega
        · obtain rfl : k = s.size := by omega
          go_wp2
          go_ret
          exact ⟨rfl, G3.out⟩
/-- check.Of, in the form in which its callers take it. -/
def check_Of.f (a0 : ByteArray) : Option Int := if a0.size ≤ 140737488355328 then some (ofS a0) else none
theorem check_Of.calls (a0 : ByteArray) (r : Int) (w : World) (h : check_Of.f a0 = some r) :
    Calls Try.prog 40 #[.string a0] w fun e w' => e = .returned (.int .u32 r) ∧ Below w.heap.size w w' := by
  unfold check_Of.f at h
  by_cases hs : a0.size ≤ 140737488355328
  · rw [if_pos hs] at h
    obtain rfl := Option.some.inj h
    exact of_calls a0 hs w
  · rw [if_neg hs] at h
    cases h
/-- A number's four bytes, the lowest one first. -/
def le4 (x : Int) : List Int := [x % 256, x / 256 % 256, x / 65536 % 256, x / 16777216 % 256]
theorem bytes_conv (W : World) (B : Nat) (hB : B = W.heap.size) (a b c d : Int) :
    (convert 48 9 (.slice (some ⟨B, 0, none⟩) 4 4)).run Try.prog (W.alloc (.cells #[.int .u8 a, .int .u8 b, .int .u8 c, .int .u8 d] 5)) = .ok (.string (strOfNums [a, b, c, d])) (W.alloc (.cells #[.int .u8 a, .int .u8 b, .int .u8 c, .int .u8 d] 5)) := by
  subst hB
  refine run_convert_bytes_arg (P := Try.prog) _ 48 5 Try.underlying48 Try.underlying5 W.heap.size 0 4 4 [a, b, c, d] rfl (fun i hi => ?_) 9 Try.underlying9
  rw [Nat.zero_add, World.cell?_alloc_new]
  match i, hi with
  | 0, _ => rfl
  | 1, _ => rfl
  | 2, _ => rfl
  | 3, _ => rfl
set_option maxRecDepth 100000 in
set_option maxHeartbeats 400000 in
theorem bytes_calls (x : Int) (h0 : 0 ≤ x) (h1 : x ≤ 4294967295) (w : World) :
    Calls Try.prog 39 #[.int .u32 x] w fun e w' => e = .returned (.string (strOfNums (le4 x))) ∧ Below w.heap.size w w' := by
  have hmk : ∀ w, (Instr.makeSlice 48 (.int .i64 4) (.int .i64 4)).run Try.prog w = .ok (.slice (some ⟨w.heap.size, 0, none⟩) 4 4) (w.alloc (.cells #[.int .u8 0, .int .u8 0, .int .u8 0, .int .u8 0] 5)) := fun _ => by kernel_rfl
  have hcv := bytes_conv w w.heap.size rfl (x % 256) (x / 256 % 256) (x / 65536 % 256) (x / 16777216)
  have he : le4 x = [x % 256, x / 256 % 256, x / 65536 % 256, x / 16777216] := by
    unfold le4
    rw [Int.emod_eq_of_lt (a := x / 16777216) (by omega) (by omega)]
  have He := Lib.hid he
  clear he
  go_enter Try.func39, Try.ntmps39
  go_wp2_with fail
  refine wp_loop_rounds 5 ?_
  rw [rounds_succ]
  go_wp2
  rw [rounds_succ]
  go_wp2
  rw [rounds_succ]
  go_wp2
  rw [rounds_succ]
  go_wp2
  rw [rounds_succ]
  go_wp2
  go_ret
  exact ⟨by rw [He.out]; rfl, (Below.refl _ _).alloc (Nat.le_refl _) _⟩
/-- check.bytes, in the form in which its callers take it. -/
def check_bytes.f (a0 : Int) : Option ByteArray := if 0 ≤ a0 ∧ a0 ≤ 4294967295 then some (strOfNums (le4 a0)) else none
theorem check_bytes.calls (a0 : Int) (r : ByteArray) (w : World) (h : check_bytes.f a0 = some r) :
    Calls Try.prog 39 #[.int .u32 a0] w fun e w' => e = .returned (.string r) ∧ Below w.heap.size w w' := by
  unfold check_bytes.f at h
  by_cases hs : 0 ≤ a0 ∧ a0 ≤ 4294967295
  · rw [if_pos hs] at h
    obtain rfl := Option.some.inj h
    exact bytes_calls a0 hs.1 hs.2 w
  · rw [if_neg hs] at h
    cases h
end Go.Proofs.Ytoakibpgmjebeaa
