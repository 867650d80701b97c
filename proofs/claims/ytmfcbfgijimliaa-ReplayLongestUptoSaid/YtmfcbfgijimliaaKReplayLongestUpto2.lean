/- Lemmas for the law ReplayLongestUpto, merged out of several texts and cut down to what it names, by a program of this session (some of the first ones are of the words that print.sh wrote for this claim). -/
import Derived.Deep.Slices
import Derived.ChangeArms
import Derived.DataReads
import Derived.WideShapes
import Derived.Laws.Strings
import Derived.Lib.IndexBytes
import Derived.Lib.PathFns
import Derived.Test.YtmfcbfgijimliaaProg
import Derived.WalkKit
import Derived.WalkSpells
import Derived.WalkLawsBesides
import Derived.Lib.ConvBytes
import Derived.Lib.Hide
import Derived.Laws.BitsLemmas
import Derived.Laws.BytesArg
import Derived.LoopN
import Derived.Below
import Derived.Deep.Draws
import Derived.Deep.AppendLies
import Derived.Maps.AppendAt
import Derived.OwnWalk
import Derived.Laws.MakeOwn
import Derived.Laws.OwnMore
import Derived.Deep.OwnRows
import Derived.Tactics
import Derived.Laws.Slices
import Derived.KernelRfl
import Derived.RowKit3
import Derived.Deep.LoopGhost
import Derived.Deep.QuietTactic
import Derived.BigQuiet
import Derived.WideLaws
import Derived.Deep.DeepCutAuto
import Derived.Deep.CutBlock
import Derived.Deep.RegionHeld3
import Derived.Laws.Rows
import Derived.Lib.AppendStr
import Derived.ArgAppend
import Derived.Laws.IdiomCopy
import Derived.OrdersHeld
import Derived.RowKit
import Derived.Lib.Builder
import Derived.Laws.Tables
import Derived.Maps.OwnSet
import Derived.Test.YtmfcbfgijimliaaKReplayLongestUpto1
set_option linter.unusedVariables false
set_option linter.unusedSimpArgs false
section
namespace Go.Proofs.Ytmfcbfgijimliaa
open Go.RowKit Go.Proofs.YtmfcbfgijimliaaW.PrintWords
theorem cells_at {w : World} {base : Nat} {a : Addr} {n : Nat} {cs : List Value} (h : w.cells? base a n = some cs) (i : Nat) (u : Value) (hu : cs[i]? = some u) : w.cell? (a.add i) = some u := by
  obtain ⟨_, hl, hc⟩ := World.cells?_some h
  have hi : i < n := by
    rcases Nat.lt_or_ge i n with h1 | h1
    · exact h1
    · rw [List.getElem?_eq_none (by omega)] at hu; cases hu
  rw [hc i hi, hu]
end Go.Proofs.Ytmfcbfgijimliaa
end
section
namespace Go.Proofs.Ytmfcbfgijimliaa
def B (l : List UInt8) : ByteArray := ⟨l.toArray⟩
theorem B_data (l : List UInt8) : (B l).data.toList = l := rfl
theorem B_eta (s : ByteArray) : B s.data.toList = s := by cases s; simp [B]
theorem B_size (l : List UInt8) : (B l).size = l.length := by simp [B, ByteArray.size]
theorem B_toList (l : List UInt8) : (B l).toList = l := by rw [ByteArray.toList_eq]; rfl
theorem B_inj {a b : List UInt8} (h : B a = B b) : a = b := by rw [← B_data a, h, B_data]
theorem eq_of_data {s t : ByteArray} (h : s.data.toList = t.data.toList) : s = t := by rw [← B_eta s, h, B_eta]
theorem eq_of_toList {s t : ByteArray} (h : s.toList = t.toList) : s = t := by rw [ByteArray.toList_eq, ByteArray.toList_eq] at h; exact eq_of_data h
theorem size_data (s : ByteArray) : s.data.toList.length = s.size := Array.length_toList
theorem B_append (a b : List UInt8) : B a ++ B b = B (a ++ b) := by
  apply eq_of_data
  rw [B_data]
  show (ByteArray.append (B a) (B b)).data.toList = _
  simp [B]
theorem B_extract (l : List UInt8) (a b : Nat) : (B l).extract a b = B ((l.drop a).take (b - a)) := by
  apply eq_of_data
  rw [Lib.extract_data, B_data, B_data]
theorem exB (s : ByteArray) : ∃ l, s = B l := ⟨s.data.toList, (B_eta s).symm⟩
end Go.Proofs.Ytmfcbfgijimliaa
end
section
namespace Go.Proofs.Ytmfcbfgijimliaa
def enc (n : Nat) : List UInt8 := if n < 128 then [UInt8.ofNat n] else UInt8.ofNat (128 + n % 128) :: enc (n / 128)
termination_by n
decreasing_by omega
theorem enc_lt {n : Nat} (h : n < 128) : enc n = [UInt8.ofNat n] := by rw [enc, if_pos h]
theorem enc_ge {n : Nat} (h : 128 ≤ n) : enc n = UInt8.ofNat (128 + n % 128) :: enc (n / 128) := by rw [enc, if_neg (by omega)]
theorem enc_ne (n : Nat) : enc n ≠ [] := by
  by_cases h : n < 128
  · rw [enc_lt h]; simp
  · rw [enc_ge (by omega)]; simp
theorem enc_len (j : Nat) : ∀ n : Nat, n < 128 ^ (j + 1) → (enc n).length ≤ j + 1 := by
  induction j with
  | zero => intro n h; rw [enc_lt (by simpa using h)]; simp
  | succ j ih =>
    intro n h
    by_cases h1 : n < 128
    · rw [enc_lt h1]; simp
    · rw [enc_ge (by omega), List.length_cons]
      have : n / 128 < 128 ^ (j + 1) := by
        rw [Nat.pow_succ] at h
        exact Nat.div_lt_of_lt_mul (by omega)
      have := ih _ this
      omega
theorem u8_toNat (n : Nat) (h : n < 256) : (UInt8.ofNat n).toNat = n := UInt8.toNat_ofNat_of_lt' (by simpa using h)
def tk : List UInt8 → Nat → Nat → Nat × List UInt8 × Int
  | [], _, _ => (0, [], 3)
  | c :: l, i, n => if 128 ≤ c.toNat then (if i = 7 then (0, [], 4) else tk l (i + 1) (n + (c.toNat - 128) * 2 ^ (7 * i))) else if c.toNat = 0 ∧ 0 < i then (0, [], 4) else (n + c.toNat * 2 ^ (7 * i), l, 0)
theorem pow7 (i : Nat) : 2 ^ (7 * (i + 1)) = 128 * 2 ^ (7 * i) := by
  rw [show 7 * (i + 1) = 7 * i + 7 by omega, Nat.pow_add]; omega
theorem tk_enc (m : Nat) : ∀ (i n : Nat) (r : List UInt8), i ≤ 7 → m < 128 ^ (8 - i) → (0 < i → 0 < m) → tk (enc m ++ r) i n = (n + m * 2 ^ (7 * i), r, 0) := by
  induction m using Nat.strongRecOn with
  | ind m ih =>
    intro i n r hi hm h0
    by_cases h : m < 128
    · rw [enc_lt h]
      show tk (UInt8.ofNat m :: r) i n = _
      rw [tk, u8_toNat m (by omega), if_neg (by omega), if_neg (by omega)]
    · rw [enc_ge (by omega)]
      show tk (UInt8.ofNat (128 + m % 128) :: (enc (m / 128) ++ r)) i n = _
      rw [tk, u8_toNat _ (by omega), if_pos (by omega)]
      have hi6 : i ≠ 7 := by rintro rfl; simp at hm; omega
      rw [if_neg hi6, ih (m / 128) (by omega) (i + 1) _ r (by omega) ?_ (by omega)]
      · congr 1
        rw [pow7 i, Nat.add_sub_cancel_left]
        have e : m = 128 * (m / 128) + m % 128 := by omega
        generalize m / 128 = q at *
        generalize m % 128 = s at *
        subst e
        rw [Nat.add_mul, Nat.mul_comm 128 q, Nat.mul_assoc, Nat.add_assoc]
        congr 1
        rw [Nat.add_comm]
      · have e : 8 - i = (8 - (i + 1)) + 1 := by omega
        rw [e, Nat.pow_succ] at hm
        exact Nat.div_lt_of_lt_mul (by omega)
theorem tk_zero (m : Nat) (r : List UInt8) (h : m < 2 ^ 56) : tk (enc m ++ r) 0 0 = (m, r, 0) := by
  rw [tk_enc m 0 0 r (by omega) (by simpa using h) (by omega)]
  simp
theorem tk_err : ∀ (l : List UInt8) (i n : Nat), (tk l i n).2.2 = 0 ∨ (tk l i n = (0, [], 3)) ∨ (tk l i n = (0, [], 4))
  | [], i, n => .inr (.inl rfl)
  | c :: l, i, n => by
    rw [tk]
    split
    · split
      · exact .inr (.inr rfl)
      · exact tk_err l _ _
    · split
      · exact .inr (.inr rfl)
      · exact .inl rfl
theorem tk_le : ∀ (l : List UInt8) (i n : Nat), (tk l i n).2.1.length ≤ l.length
  | [], i, n => by simp [tk]
  | c :: l, i, n => by
    rw [tk]
    split
    · split
      · simp
      · have := tk_le l (i + 1) (n + (c.toNat - 128) * 2 ^ (7 * i))
        simp only [List.length_cons]; omega
    · split
      · simp
      · simp
theorem enc_len8 {m : Nat} (h : m < 2 ^ 56) : (enc m).length ≤ 8 := enc_len 7 m (by simpa using h)
def txt (s : List UInt8) : List UInt8 := enc s.length ++ s
def tkT (l : List UInt8) : List UInt8 × List UInt8 × Int :=
  if (tk l 0 0).2.2 ≠ 0 then ([], [], (tk l 0 0).2.2) else if (tk l 0 0).2.1.length < (tk l 0 0).1 then ([], [], 3) else ((tk l 0 0).2.1.take (tk l 0 0).1, (tk l 0 0).2.1.drop (tk l 0 0).1, 0)
theorem tkT_txt (s r : List UInt8) (h : s.length < 2 ^ 56) : tkT (txt s ++ r) = (s, r, 0) := by
  unfold tkT txt
  rw [List.append_assoc, tk_zero _ _ h]
  simp
theorem tkT_le (l : List UInt8) : (tkT l).2.1.length ≤ l.length ∧ (tkT l).1.length ≤ l.length := by
  have := tk_le l 0 0
  unfold tkT
  split
  · simp
  · split
    · simp
    · simp only [List.length_take, List.length_drop]; omega
end Go.Proofs.Ytmfcbfgijimliaa
end
section
namespace Go.Proofs.Ytmfcbfgijimliaa
open Go.RowKit
theorem bits_rng_u32 (op : BinOp) (a b : Int) : 0 ≤ Go.bits op .u32 a b ∧ Go.bits op .u32 a b ≤ 4294967295 := by
  unfold Go.bits
  simp only [IntKind.wrap_u32]
  omega
theorem bits_rng_u8 (op : BinOp) (a b : Int) : 0 ≤ Go.bits op .u8 a b ∧ Go.bits op .u8 a b ≤ 255 := by
  unfold Go.bits
  simp only [IntKind.wrap_u8]
  omega
def crcR (i : Int) : Int := Go.bits .xor .u32 (i / 2) (2197175160 * Go.bits .and .u32 i 1 % 4294967296)
def crcN : Nat → Int → Int
  | 0, i => i
  | k + 1, i => crcR (crcN k i)
theorem crcR_rng (i : Int) : 0 ≤ crcR i ∧ crcR i ≤ 4294967295 := bits_rng_u32 _ _ _
set_option maxHeartbeats 400000 in
theorem out_calls (i : Int) (h0 : 0 ≤ i) (h1 : i ≤ 4294967295) (w : World) :
    Calls Try.prog 77 #[.int .u32 i] w fun e w' => e = .returned (.int .u32 (crcN 8 i)) ∧ w' = w := by
  go_enter Try.func77, Try.ntmps77
  go_wp2
  go_loop [0, 3] (fun x n => ∃ k : Nat, k ≤ 8 ∧ n = .int .i64 k ∧ x = .int .u32 (crcN k i)) (fun _ n => 8 - (intOf n).toNat)
  case atStart => exact ⟨0, by omega, rfl, rfl⟩
  case round =>
    obtain ⟨k, hk, rfl, rfl⟩ := hrel
    have hr : 0 ≤ crcN k i ∧ crcN k i ≤ 4294967295 := by
      cases k with
      | zero => exact ⟨h0, h1⟩
      | succ k => exact crcR_rng _
    by_cases hlt : k < 8
    · go_wp2
      go_round
      case rel => exact ⟨k + 1, by omega, by go_num, rfl⟩
      case measure => simp [intOf]; omega
    · obtain rfl : k = 8 := by omega
      go_wp2
      go_ret
      exact ⟨rfl, rfl⟩
def arr (k : IntKind) (xs : List Int) : Array Value := (xs.map (Value.int k)).toArray
theorem arr_set (k : IntKind) (xs : List Int) (i : Nat) (v : Int) : (arr k xs).setIfInBounds i (.int k v) = arr k (xs.set i v) := by
  simp [arr, List.map_set]
theorem arr_get (k : IntKind) (xs : List Int) (i : Nat) (_h : i < xs.length) : (arr k xs)[i]? = some (.int k (xs.getD i 0)) := by
  simp [arr, _h, List.getD_eq_getElem?_getD]
def zs (n : Nat) : List Int := List.replicate n 0
theorem zero256 (w : World) : (zeroValue 124).run Try.prog w = .ok (.agg (arr .u32 (zs 256))) w := by kernel_rfl
attribute [local go_sem] arr_set
def tabK (k : Nat) : List Int := (List.range 256).map fun j => if j < k then crcN 8 j else 0
theorem tabK_len (k : Nat) : (tabK k).length = 256 := by simp [tabK]
theorem tabK_zero : tabK 0 = zs 256 := by simp [tabK, zs, List.map_const']
theorem tabK_succ (k : Nat) (_h : k < 256) : (tabK k).set k (crcN 8 k) = tabK (k + 1) := by
  apply List.ext_getElem
  · simp [tabK]
  · intro i h1 h2
    simp [tabK, List.getElem_set] at h1 h2 ⊢
    by_cases e : k = i
    · subst e; simp
    · have : (i < k + 1) ↔ (i < k) := by omega
      simp [e, this]
theorem tabK_full (j : Nat) (h : j < 256) : (tabK 256).getD j 0 = crcN 8 j := by
  simp [tabK, List.getD_eq_getElem?_getD, h]
def crcB (x c : Int) : Int := Go.bits .xor .u32 (crcN 8 (Go.bits .xor .u8 (x % 256) c)) (x / 256)
def byteAt (s : ByteArray) (k : Nat) : Int := ((s.data.toList.getD k 0).toNat : Int)
def crcS (s : ByteArray) : Nat → Int
  | 0 => 4294967295
  | k + 1 => crcB (crcS s k) (byteAt s k)
def ofS (s : ByteArray) : Int := Go.bits .xor .u32 4294967295 (crcS s s.size)
theorem byteAt_rng (s : ByteArray) (k : Nat) : 0 ≤ byteAt s k ∧ byteAt s k ≤ 255 := by
  unfold byteAt
  have := (s.data.toList.getD k 0).toNat_lt
  omega
theorem crcS_rng (s : ByteArray) (k : Nat) : 0 ≤ crcS s k ∧ crcS s k ≤ 4294967295 := by
  cases k with
  | zero => simp [crcS]
  | succ k => rw [crcS]; unfold crcB; exact bits_rng_u32 _ _ _
theorem of_world (w : World) (s : ByteArray) (W1 : World) (h : Lib.bytesWorld (w.alloc (.cells (arr .u32 (tabK 256)) 124)) 5 s = W1) :
    (∀ j : Int, 0 ≤ j → j < 256 → W1.cell? ⟨w.heap.size, j.toNat, none⟩ = some (.int .u32 (crcN 8 j))) ∧ (∀ j : Nat, j < s.size → W1.cell? ⟨w.heap.size + 1, j, none⟩ = some (.int .u8 (byteAt s j))) ∧ Below w.heap.size w W1 := by
  subst h
  refine ⟨fun j h0 hj => ?_, fun j hj => ?_, ?_⟩
  · obtain ⟨j, rfl⟩ := Int.eq_ofNat_of_zero_le h0
    rw [Int.toNat_natCast]
    have hj : j < 256 := by omega
    rw [Lib.bytesWorld_old _ _ _ _ (by simp), World.cell?_alloc_new, arr_get _ _ _ (by rw [tabK_len]; exact hj), tabK_full j hj]
  · have := Lib.bytesWorld_cell (w.alloc (.cells (arr .u32 (tabK 256)) 124)) 5 s j hj
    simpa [byteAt] using this
  · have h1 : Below w.heap.size w (w.alloc (.cells (arr .u32 (tabK 256)) 124)) := (Below.refl _ _).alloc (Nat.le_refl _) _
    refine h1.trans ⟨rfl, rfl, rfl, ?_, fun i hi => ?_⟩
    · rw [Lib.bytesWorld_size]; simp
    · rw [Lib.bytesWorld_at_old _ _ _ _ (by simp; omega)]
set_option maxRecDepth 100000 in
set_option maxHeartbeats 400000 in
theorem of_calls (s : ByteArray) (hs : s.size ≤ 140737488355328) (w : World) :
    Calls Try.prog 58 #[.string s] w fun e w' => e = .returned (.int .u32 (ofS s)) ∧ Below w.heap.size w w' := by
  have hz := zero256
  have hcv := fun (W : World) => Lib.run_convert_string_bytes (P := Try.prog) W 9 70 5 s Try.underlying9 Try.underlying70 Try.underlying5
  go_enter Try.func58, Try.ntmps58
  go_wp2_with fail
  go_loopw [5, 9] (fun _ n wr => ∃ k : Nat, k ≤ 256 ∧ n = .int .i64 k ∧ wr = w.alloc (.cells (arr .u32 (tabK k)) 124)) (fun _ n _ => 256 - (intOf n).toNat)
  case atStart => exact ⟨0, by omega, rfl, by rw [tabK_zero]⟩
  case round =>
    obtain ⟨k, hk, rfl, rfl⟩ := hrel
    by_cases hlt : k < 256
    · have hc := arr_get .u32 (tabK k) k (by rw [tabK_len]; exact hlt)
      go_wp2_with (go_at_call 77; refine (out_calls _ (by omega) (by omega) _).mono ?_; rintro e w' ⟨rfl, rfl⟩)
      go_roundw
      case rel => exact ⟨k + 1, by omega, by go_num, by rw [tabK_succ _ hlt]⟩
      case measure => simp [intOf]; omega
    · obtain rfl : k = 256 := by omega
      go_wp2_with fail
      generalize hW1 : Lib.bytesWorld (w.alloc (.cells (arr .u32 (tabK 256)) 124)) 5 s = W1
      obtain ⟨F1, F2, F3⟩ := of_world w s W1 hW1
      clear hW1 hz hcv
      have G1 := Lib.hid F1
      have G2 := Lib.hid F2
      have G3 := Lib.hid F3
      clear F1 F2 F3
      go_loop [6, 8, 22] (fun x _ n => ∃ k : Nat, k ≤ s.size ∧ n = .int .i64 k ∧ x = .int .u32 (crcS s k)) (fun _ _ n => s.size - (intOf n).toNat)
      case atStart => exact ⟨0, by omega, rfl, rfl⟩
      case round =>
        obtain ⟨k, hk, rfl, rfl⟩ := hrel
        have hr := crcS_rng s k
        have hb := byteAt_rng s k
        have hx := bits_rng_u8 .xor (crcS s k % 256) (byteAt s k)
        by_cases hlt : k < s.size
        · have c2 := G2.out k hlt
          have c1 := G1.out (Go.bits .xor .u8 (crcS s k % 256) (byteAt s k)) (by omega) (by omega)
          go_wp2
          go_round
          case rel => exact ⟨k + 1, by omega, by go_num, rfl⟩
          case measure => simp [intOf]; omega
        · obtain rfl : k = s.size := by omega
          go_wp2
          go_ret
          exact ⟨rfl, G3.out⟩
def check_Of.f (a0 : ByteArray) : Option Int := if a0.size ≤ 140737488355328 then some (ofS a0) else none
theorem check_Of.calls (a0 : ByteArray) (r : Int) (w : World) (h : check_Of.f a0 = some r) :
    Calls Try.prog 58 #[.string a0] w fun e w' => e = .returned (.int .u32 r) ∧ Below w.heap.size w w' := by
  unfold check_Of.f at h
  by_cases hs : a0.size ≤ 140737488355328
  · rw [if_pos hs] at h
    obtain rfl := Option.some.inj h
    exact of_calls a0 hs w
  · rw [if_neg hs] at h
    cases h
def le4 (x : Int) : List Int := [x % 256, x / 256 % 256, x / 65536 % 256, x / 16777216 % 256]
theorem bytes_conv (W : World) (B : Nat) (hB : B = W.heap.size) (a b c d : Int) :
    (convert 70 9 (.slice (some ⟨B, 0, none⟩) 4 4)).run Try.prog (W.alloc (.cells #[.int .u8 a, .int .u8 b, .int .u8 c, .int .u8 d] 5)) = .ok (.string (strOfNums [a, b, c, d])) (W.alloc (.cells #[.int .u8 a, .int .u8 b, .int .u8 c, .int .u8 d] 5)) := by
  subst hB
  refine run_convert_bytes_arg (P := Try.prog) _ 70 5 Try.underlying70 Try.underlying5 W.heap.size 0 4 4 [a, b, c, d] rfl (fun i hi => ?_) 9 Try.underlying9
  rw [Nat.zero_add, World.cell?_alloc_new]
  match i, hi with
  | 0, _ => rfl
  | 1, _ => rfl
  | 2, _ => rfl
  | 3, _ => rfl
set_option maxRecDepth 100000 in
set_option maxHeartbeats 400000 in
theorem bytes_calls (x : Int) (h0 : 0 ≤ x) (h1 : x ≤ 4294967295) (w : World) :
    Calls Try.prog 57 #[.int .u32 x] w fun e w' => e = .returned (.string (strOfNums (le4 x))) ∧ Below w.heap.size w w' := by
  have hmk : ∀ w, (Instr.makeSlice 70 (.int .i64 4) (.int .i64 4)).run Try.prog w = .ok (.slice (some ⟨w.heap.size, 0, none⟩) 4 4) (w.alloc (.cells #[.int .u8 0, .int .u8 0, .int .u8 0, .int .u8 0] 5)) := fun _ => by kernel_rfl
  have hcv := bytes_conv w w.heap.size rfl (x % 256) (x / 256 % 256) (x / 65536 % 256) (x / 16777216)
  have he : le4 x = [x % 256, x / 256 % 256, x / 65536 % 256, x / 16777216] := by
    unfold le4
    rw [Int.emod_eq_of_lt (a := x / 16777216) (by omega) (by omega)]
  have He := Lib.hid he
  clear he
  go_enter Try.func57, Try.ntmps57
  go_wp2_with fail
  refine wp_loop_rounds 5 ?_
  rw [rounds_succ]
  go_wp2
  rw [rounds_succ]
  go_wp2
  rw [rounds_succ]
  go_wp2
  rw [rounds_succ]
  go_wp2
  rw [rounds_succ]
  go_wp2
  go_ret
  exact ⟨by rw [He.out]; rfl, (Below.refl _ _).alloc (Nat.le_refl _) _⟩
def check_bytes.f (a0 : Int) : Option ByteArray := if 0 ≤ a0 ∧ a0 ≤ 4294967295 then some (strOfNums (le4 a0)) else none
theorem check_bytes.calls (a0 : Int) (r : ByteArray) (w : World) (h : check_bytes.f a0 = some r) :
    Calls Try.prog 57 #[.int .u32 a0] w fun e w' => e = .returned (.string r) ∧ Below w.heap.size w w' := by
  unfold check_bytes.f at h
  by_cases hs : 0 ≤ a0 ∧ a0 ≤ 4294967295
  · rw [if_pos hs] at h
    obtain rfl := Option.some.inj h
    exact bytes_calls a0 hs.1 hs.2 w
  · rw [if_neg hs] at h
    cases h
end Go.Proofs.Ytmfcbfgijimliaa
end
section
namespace Go.Proofs.Ytmfcbfgijimliaa
end Go.Proofs.Ytmfcbfgijimliaa
end
section
namespace Go.Proofs.Ytmfcbfgijimliaa.Q
open Go.RowKit Go.Proofs.YtmfcbfgijimliaaW.PrintWords Go.Proofs.YtmfcbfgijimliaaW.PrintLast Go.Proofs.YtmfcbfgijimliaaW.PrintMore
attribute [local go_sem] max2_int min2_int max_two min_two max_three min_three max_four min_four   -- for this text's walks alone
set_option linter.unusedVariables false
set_option linter.unusedSimpArgs false
def errW : Option Int → Value
  | none => .nilIface
  | some c => .iface 0 (.int .i64 c)
theorem errW_none : errW none = .nilIface := rfl
theorem errW_some (c : Int) : errW (some c) = .iface 0 (.int .i64 c) := rfl
theorem info3 : (Try.prog.info? 3).map (fun i => (i.zero, i.size, i.bytes)) = some (some (.int .i64 0), 1, 8) := by kernel_rfl
theorem info5 : (Try.prog.info? 5).map (fun i => (i.zero, i.size, i.bytes)) = some (some (.int .u8 0), 1, 1) := by kernel_rfl
theorem info55 : (Try.prog.info? 55).map (fun i => (i.zero, i.size, i.bytes)) = some (some (.agg #[(.int .i64 0), (.int .i64 0), (.int .i64 0), (.int .i64 0), (.int .i64 0), (.slice none 0 0), (.string ⟨#[]⟩), (.int .i64 0), (.int .i64 0), (.int .i64 0), (.string ⟨#[]⟩), (.string ⟨#[]⟩), (.int .i64 0), (.int .i64 0)]), 14, 152) := by kernel_rfl
theorem info83 : (Try.prog.info? 83).map (fun i => (i.zero, i.size, i.bytes)) = some (some (.agg #[(.int .i64 0), (.int .i64 0)]), 2, 16) := by kernel_rfl
structure S83 where
  f0 : Int
  f1 : Int
def z83 : S83 := ⟨(0 : Int), (0 : Int)⟩
def k83 : Kd S83 := Kd.iso (Kd.pair (Kd.int .i64) (Kd.int .i64)) (fun x : S83 => (x.f0, x.f1))
theorem k83_open {w : World} {x : S83} {cs : List Value} (h : k83.K w x cs) : cs = [.int .i64 x.f0, .int .i64 x.f1] := by
  obtain ⟨_, _, rfl, rfl, rfl⟩ := h
  exact rfl
theorem k83_mkM (w : World) (base : Nat) (ok : Nat → Prop) (x : S83)  : k83.M w base ok x [.int .i64 x.f0, .int .i64 x.f1] := ⟨[.int .i64 x.f0], [.int .i64 x.f1], rfl, rfl, rfl⟩
def rd_T83 (xs : List S83) (i : Int) : S83 := xs.getD i.toNat z83
theorem at_T83 {w : World} {A : Option Addr} {n : Nat} {xs : List S83} (h : Kd.C k83 w A n xs) (i : Int) (h0 : 0 ≤ i) (h1 : i < n) : ∃ ad , A = some ad ∧ w.cell? (ad.add (i.toNat * 2)) = some (.int .i64 (rd_T83 xs i).f0) ∧ w.cell? ⟨(ad.add (i.toNat * 2)).block, (ad.add (i.toNat * 2)).off + 1, none⟩ = some (.int .i64 (rd_T83 xs i).f1) := by
  obtain ⟨ad, c, e, _, hK, hc0⟩ := Kd.C_get h z83 i h0 h1
  have hc : ∀ j u, c[j]? = some u → w.cell? (ad.add (i.toNat * 2 + j)) = some u := hc0
  obtain rfl := k83_open hK
  exact ⟨ad, e, hc 0 _ rfl, by rw [← add_field _ _ 1 (by omega)]; exact hc 1 _ rfl⟩
end Go.Proofs.Ytmfcbfgijimliaa.Q
end
section
namespace Go.Proofs.Ytmfcbfgijimliaa.Q
open Go.RowKit Go.Proofs.YtmfcbfgijimliaaW.PrintWords Go.Proofs.YtmfcbfgijimliaaW.PrintLast Go.Proofs.YtmfcbfgijimliaaW.PrintMore
attribute [local go_sem] max2_int min2_int max_two min_two max_three min_three max_four min_four   -- for this text's walks alone
set_option linter.unusedVariables false
set_option linter.unusedSimpArgs false
theorem eqA83 (d : Nat) (w : World) (x0 y0 : Int) (x1 y1 : Int) :
    (Op.equalIn (d + 2) 83 (.agg #[.int .i64 x0, .int .i64 x1]) (.agg #[.int .i64 y0, .int .i64 y1])).run Try.prog w = .ok (x0 == y0 && (x1 == y1)) w := by
  refine eqA_of Try.underlying83 (by kernel_rfl) ?_
  refine eqf_cons (by rfl) (by go_simp; rfl) (by go_simp; rfl) (by go_simp) ?_
  exact eqf_last (by rfl) (by go_simp; rfl) (by go_simp; rfl) (by go_simp)
end Go.Proofs.Ytmfcbfgijimliaa.Q
end
section
namespace Go.Proofs.Ytmfcbfgijimliaa.Q
open Go.RowKit Go.Proofs.YtmfcbfgijimliaaW.PrintWords Go.Proofs.YtmfcbfgijimliaaW.PrintLast Go.Proofs.YtmfcbfgijimliaaW.PrintMore
attribute [local go_sem] max2_int min2_int max_two min_two max_three min_three max_four min_four   -- for this text's walks alone
set_option linter.unusedVariables false
set_option linter.unusedSimpArgs false
attribute [local go_sem high] eqA83
def sluicegateref02_Small.l0 : Nat → List ByteArray → Int → Int → Int → Option (Bool)
  | 0, _, _, _, _ => none
  | k + 1, x0, x1, x2, x7 => if x7 < (x0.length : Int) then (if 0 ≤ x7 then (if ((rdOf ByteArray.empty x0 x7).size : Int) > x2 then (some false) else (sluicegateref02_Small.l0 k x0 x1 x2 (wrap64 (x7 + 1)))) else (none)) else (some (decide ((x0.length : Int) ≤ x1)))
def sluicegateref02_Small.f (k : Nat) (l0 : List ByteArray) (a1 : Int) (a2 : Int) : Option (Bool) := sluicegateref02_Small.l0 k l0 a1 a2 0
set_option maxHeartbeats 8000000 in
set_option maxRecDepth 100000 in
theorem sluicegateref02_Small.calls (k : Nat) (A0 : Option Addr) (c0 : Nat) (l0 : List ByteArray) (a1 : Int) (a2 : Int) (r : Bool) (w : World) (hr0 : Kd.C Kd.string w A0 l0.length l0) (hc0 : l0.length ≤ c0) (h : sluicegateref02_Small.f k l0 a1 a2 = some r) :
    Calls Try.prog 9 #[.slice A0 l0.length c0, .int .i64 a1, .int .i64 a2] w fun e w' => e = .returned (.bool r) ∧ Drawn0 w w' := by
  have HR0 := Aside0.mk hr0
  have HC0 := Aside0.mk hc0
  clear hr0 hc0
  have H : (sluicegateref02_Small.l0 k l0 a1 a2 0) = some r := h
  clear h
  have H' := Aside0.mk H
  clear H
  go_enter Try.func9, Try.ntmps9
  go_wp2
  go_loopg [7] k (fun kq v7 w' => ∃ (x7_1 : Int), v7 = .int .i64 x7_1 ∧ Aside0 (sluicegateref02_Small.l0 kq l0 a1 a2 x7_1 = some r) ∧ Aside0 (kq ≤ k) ∧ Drawn0 w w')
  case atStart => exact ⟨(0), (by first | rfl | (simp; done) | (simp [*]; done)), H', ⟨Nat.le_refl _⟩, by repeat (first | exact Drawn0.refl _ | apply Drawn0.step)⟩
  case round =>
    clear H'
    try clear p2
    obtain ⟨x7_1, rfl, HA, HK1, ⟨m1, rfl⟩⟩ := hrel
    cases gk with
    | zero => exact absurd HA.out (by simp [sluicegateref02_Small.l0])
    | succ k1 =>
      have H := HA.out
      clear HA
      simp only [sluicegateref02_Small.l0] at H
      by_cases c4 : x7_1 < (l0.length : Int)
      · rw [if_pos c4] at H
        have c4b0 : decide (x7_1 < (l0.length : Int)) = true := decide_eq_true c4
        clear c4
        by_cases c5 : 0 ≤ x7_1
        · rw [if_pos c5] at H
          have c5b0 : decide (0 ≤ x7_1) = true := decide_eq_true c5
          clear c5
          by_cases c6 : ((rdOf ByteArray.empty l0 x7_1).size : Int) > a2
          · rw [if_pos c6] at H
            have c6b0 : decide (a2 < ((rdOf ByteArray.empty l0 x7_1).size : Int)) = true := decide_eq_true c6
            clear c6
            obtain rfl := Option.some.inj H
            have p101 : 0 ≤ (x7_1 : Int) := of_decide_eq_true (by first | (with_reducible assumption) | assumption)
            have q101 : x7_1 < (l0.length : Int) := of_decide_eq_true (by first | (with_reducible assumption) | assumption)
            obtain ⟨ad101, e101, hx101_0⟩ := Kd.at_string HR0.out x7_1 p101 q101
            cases e101
            replace p101 := eq_true p101
            replace q101 := eq_true q101
            go_wp2
            go_ret
            exact ⟨by first | rfl | (simp; done) | (simp [*]; done), by repeat (first | exact Drawn0.refl _ | apply Drawn0.step)⟩
          · rw [if_neg c6] at H
            have c6b0 : decide (a2 < ((rdOf ByteArray.empty l0 x7_1).size : Int)) = false := decide_eq_false c6
            clear c6
            have H' := Aside0.mk H
            clear H
            have p101 : 0 ≤ (x7_1 : Int) := of_decide_eq_true (by first | (with_reducible assumption) | assumption)
            have q101 : x7_1 < (l0.length : Int) := of_decide_eq_true (by first | (with_reducible assumption) | assumption)
            obtain ⟨ad101, e101, hx101_0⟩ := Kd.at_string HR0.out x7_1 p101 q101
            cases e101
            replace p101 := eq_true p101
            replace q101 := eq_true q101
            go_wp2
            go_roundg k1
            case measure => have := HK1.out; omega
            case rel => exact ⟨(wrap64 (x7_1 + 1)), (by first | rfl | (simp; done) | (simp [*]; done)), H', ⟨by have := HK1.out; omega⟩, by repeat (first | exact Drawn0.refl _ | apply Drawn0.step)⟩
        · rw [if_neg c5] at H
          exact absurd H (by simp)
      · rw [if_neg c4] at H
        have c4b0 : decide (x7_1 < (l0.length : Int)) = false := decide_eq_false c4
        clear c4
        obtain rfl := Option.some.inj H
        go_wp2
        go_ret
        exact ⟨by first | rfl | (simp; done) | (simp [*]; done), by repeat (first | exact Drawn0.refl _ | apply Drawn0.step)⟩
def api_Loc.l0 : Nat → List (S83) → List (S83) → Int → Int → Option (Bool)
  | 0, _, _, _, _ => none
  | k + 1, x0, x1, x12, x13 => if x13 < x12 then (if 0 ≤ x13 then (if x13 < (x0.length : Int) then (if x13 < (x1.length : Int) then (if (!(((rd_T83 x0 x13).f0) == ((rd_T83 x1 x13).f0)) || (!(((rd_T83 x0 x13).f1) == ((rd_T83 x1 x13).f1)))) = true then (some false) else (api_Loc.l0 k x0 x1 x12 (wrap64 (x13 + 1)))) else (none)) else (none)) else (none)) else (some true)
def api_Loc.f (k : Nat) (l0 : List (S83)) (l1 : List (S83)) : Option (Bool) := if (l0.length : Int) = (l1.length : Int) then (api_Loc.l0 k l0 l1 (l0.length : Int) 0) else (some false)
set_option maxHeartbeats 8000000 in
set_option maxRecDepth 100000 in
theorem api_Loc.calls (k : Nat) (A0 : Option Addr) (c0 : Nat) (l0 : List (S83)) (A1 : Option Addr) (c1 : Nat) (l1 : List (S83)) (r : Bool) (w : World) (hr0 : Kd.C k83 w A0 l0.length l0) (hc0 : l0.length ≤ c0) (hr1 : Kd.C k83 w A1 l1.length l1) (hc1 : l1.length ≤ c1) (h : api_Loc.f k l0 l1 = some r) :
    Calls Try.prog 46 #[.slice A0 l0.length c0, .slice A1 l1.length c1] w fun e w' => e = .returned (.bool r) ∧ Drawn0 w w' := by
  have hu83 := Try.underlying83
  have HR0 := Aside0.mk hr0
  have HC0 := Aside0.mk hc0
  clear hr0 hc0
  have HR1 := Aside0.mk hr1
  have HC1 := Aside0.mk hc1
  clear hr1 hc1
  have H : (if (l0.length : Int) = (l1.length : Int) then (api_Loc.l0 k l0 l1 (l0.length : Int) 0) else (some false)) = some r := h
  clear h
  by_cases c3 : (l0.length : Int) = (l1.length : Int)
  · rw [if_pos c3] at H
    have c3b0 : ((l0.length : Int) == (l1.length : Int)) = true := beq_iff_eq.mpr c3
    have c3b1 : ((l0.length : Int) != (l1.length : Int)) = false := bne_eq_false_iff_eq.mpr c3
    have c3b2 : (l0.length == l1.length) = true := by first | simpa using c3 | (simp at c3 ⊢; omega)
    clear c3
    have H' := Aside0.mk H
    clear H
    go_enter Try.func46, Try.ntmps46
    go_wp2
    repeat (go_quiet (fail); try go_wp2)
    go_loopg [13] k (fun kq v13 w' => ∃ (x13_1 : Int), v13 = .int .i64 x13_1 ∧ Aside0 (api_Loc.l0 kq l0 l1 (l0.length : Int) x13_1 = some r) ∧ Aside0 (kq ≤ k) ∧ Drawn0 w w')
    case atStart => exact ⟨(0), (by first | rfl | (simp; done) | (simp [*]; done)), H', ⟨Nat.le_refl _⟩, by repeat (first | exact Drawn0.refl _ | apply Drawn0.step)⟩
    case round =>
      clear H'
      try clear c1
      try clear p2
      try clear c3
      try clear c3b0
      try clear c3b1
      try clear c3b2
      obtain ⟨x13_1, rfl, HA, HK1, ⟨m1, rfl⟩⟩ := hrel
      cases gk with
      | zero => exact absurd HA.out (by simp [api_Loc.l0])
      | succ k1 =>
        have H := HA.out
        clear HA
        simp only [api_Loc.l0] at H
        by_cases c4 : x13_1 < (l0.length : Int)
        · rw [if_pos c4] at H
          have c4b0 : decide (x13_1 < (l0.length : Int)) = true := decide_eq_true c4
          clear c4
          by_cases c5 : 0 ≤ x13_1
          · rw [if_pos c5] at H
            have c5b0 : decide (0 ≤ x13_1) = true := decide_eq_true c5
            clear c5
            by_cases c6 : x13_1 < (l0.length : Int)
            · rw [if_pos c6] at H
              have c6b0 : decide (x13_1 < (l0.length : Int)) = true := decide_eq_true c6
              clear c6
              by_cases c7 : x13_1 < (l1.length : Int)
              · rw [if_pos c7] at H
                have c7b0 : decide (x13_1 < (l1.length : Int)) = true := decide_eq_true c7
                clear c7
                by_cases c8 : (!(((rd_T83 l0 x13_1).f0) == ((rd_T83 l1 x13_1).f0)) || (!(((rd_T83 l0 x13_1).f1) == ((rd_T83 l1 x13_1).f1)))) = true
                · rw [if_pos c8] at H
                  have c8b0 : (!(((rd_T83 l0 x13_1).f0) == ((rd_T83 l1 x13_1).f0)) || (!(((rd_T83 l0 x13_1).f1) == ((rd_T83 l1 x13_1).f1)))) = true := c8
                  clear c8
                  obtain rfl := Option.some.inj H
                  have p102 : 0 ≤ (x13_1 : Int) := of_decide_eq_true (by first | (with_reducible assumption) | assumption)
                  have q102 : x13_1 < (l0.length : Int) := of_decide_eq_true (by first | (with_reducible assumption) | assumption)
                  obtain ⟨ad102, e102, hx102_0, hx102_1⟩ := at_T83 HR0.out x13_1 p102 q102
                  cases e102
                  replace p102 := eq_true p102
                  replace q102 := eq_true q102
                  have p103 : 0 ≤ (x13_1 : Int) := of_decide_eq_true (by first | (with_reducible assumption) | assumption)
                  have q103 : x13_1 < (l1.length : Int) := of_decide_eq_true (by first | (with_reducible assumption) | assumption)
                  obtain ⟨ad103, e103, hx103_0, hx103_1⟩ := at_T83 HR1.out x13_1 p103 q103
                  cases e103
                  replace p103 := eq_true p103
                  replace q103 := eq_true q103
                  go_wp2
                  repeat (go_quiet (fail); try go_wp2)
                  go_ret
                  exact ⟨by first | rfl | (simp; done) | (simp [*]; done), by repeat (first | exact Drawn0.refl _ | apply Drawn0.step)⟩
                · rw [if_neg c8] at H
                  have c8b0 : (!(((rd_T83 l0 x13_1).f0) == ((rd_T83 l1 x13_1).f0)) || (!(((rd_T83 l0 x13_1).f1) == ((rd_T83 l1 x13_1).f1)))) = false := by simpa using c8
                  clear c8
                  have H' := Aside0.mk H
                  clear H
                  have p102 : 0 ≤ (x13_1 : Int) := of_decide_eq_true (by first | (with_reducible assumption) | assumption)
                  have q102 : x13_1 < (l0.length : Int) := of_decide_eq_true (by first | (with_reducible assumption) | assumption)
                  obtain ⟨ad102, e102, hx102_0, hx102_1⟩ := at_T83 HR0.out x13_1 p102 q102
                  cases e102
                  replace p102 := eq_true p102
                  replace q102 := eq_true q102
                  have p103 : 0 ≤ (x13_1 : Int) := of_decide_eq_true (by first | (with_reducible assumption) | assumption)
                  have q103 : x13_1 < (l1.length : Int) := of_decide_eq_true (by first | (with_reducible assumption) | assumption)
                  obtain ⟨ad103, e103, hx103_0, hx103_1⟩ := at_T83 HR1.out x13_1 p103 q103
                  cases e103
                  replace p103 := eq_true p103
                  replace q103 := eq_true q103
                  go_wp2
                  repeat (go_quiet (fail); try go_wp2)
                  go_roundg k1
                  case measure => have := HK1.out; omega
                  case rel => exact ⟨(wrap64 (x13_1 + 1)), (by first | rfl | (simp; done) | (simp [*]; done)), H', ⟨by have := HK1.out; omega⟩, by repeat (first | exact Drawn0.refl _ | apply Drawn0.step)⟩
              · rw [if_neg c7] at H
                exact absurd H (by simp)
            · rw [if_neg c6] at H
              exact absurd H (by simp)
          · rw [if_neg c5] at H
            exact absurd H (by simp)
        · rw [if_neg c4] at H
          have c4b0 : decide (x13_1 < (l0.length : Int)) = false := decide_eq_false c4
          clear c4
          obtain rfl := Option.some.inj H
          go_wp2
          repeat (go_quiet (fail); try go_wp2)
          go_ret
          exact ⟨by first | rfl | (simp; done) | (simp [*]; done), by repeat (first | exact Drawn0.refl _ | apply Drawn0.step)⟩
  · rw [if_neg c3] at H
    have c3b0 : ((l0.length : Int) == (l1.length : Int)) = false := beq_eq_false_iff_ne.mpr c3
    have c3b1 : ((l0.length : Int) != (l1.length : Int)) = true := bne_iff_ne.mpr c3
    have c3b2 : (l0.length == l1.length) = false := by first | simpa using c3 | (simp at c3 ⊢; omega)
    obtain rfl := Option.some.inj H
    go_enter Try.func46, Try.ntmps46
    go_wp2
    repeat (go_quiet (fail); try go_wp2)
    go_ret
    exact ⟨by first | rfl | (simp; done) | (simp [*]; done), by repeat (first | exact Drawn0.refl _ | apply Drawn0.step)⟩
def sluicegateref06_Ints.l0 : Nat → List Int → List Int → Int → Option (Bool)
  | 0, _, _, _ => none
  | k + 1, x0, x1, x5 => if x5 < (x0.length : Int) then (if 0 ≤ x5 then (if x5 < (x1.length : Int) then (if (rd x0 x5) = (rd x1 x5) then (sluicegateref06_Ints.l0 k x0 x1 (wrap64 (x5 + 1))) else (some false)) else (none)) else (none)) else (some true)
def sluicegateref06_Ints.f (k : Nat) (l0 : List Int) (l1 : List Int) : Option (Bool) := if (l0.length : Int) = (l1.length : Int) then (sluicegateref06_Ints.l0 k l0 l1 0) else (some false)
set_option maxHeartbeats 8000000 in
set_option maxRecDepth 100000 in
theorem sluicegateref06_Ints.calls (k : Nat) (A0 : Option Addr) (c0 : Nat) (l0 : List Int) (A1 : Option Addr) (c1 : Nat) (l1 : List Int) (r : Bool) (w : World) (hr0 : Kd.C (Kd.int .i64) w A0 l0.length l0) (hc0 : l0.length ≤ c0) (hr1 : Kd.C (Kd.int .i64) w A1 l1.length l1) (hc1 : l1.length ≤ c1) (h : sluicegateref06_Ints.f k l0 l1 = some r) :
    Calls Try.prog 19 #[.slice A0 l0.length c0, .slice A1 l1.length c1] w fun e w' => e = .returned (.bool r) ∧ Drawn0 w w' := by
  have HR0 := Aside0.mk hr0
  have HC0 := Aside0.mk hc0
  clear hr0 hc0
  have HR1 := Aside0.mk hr1
  have HC1 := Aside0.mk hc1
  clear hr1 hc1
  have H : (if (l0.length : Int) = (l1.length : Int) then (sluicegateref06_Ints.l0 k l0 l1 0) else (some false)) = some r := h
  clear h
  by_cases c3 : (l0.length : Int) = (l1.length : Int)
  · rw [if_pos c3] at H
    have c3b0 : ((l0.length : Int) == (l1.length : Int)) = true := beq_iff_eq.mpr c3
    have c3b1 : ((l0.length : Int) != (l1.length : Int)) = false := bne_eq_false_iff_eq.mpr c3
    have c3b2 : (l0.length == l1.length) = true := by first | simpa using c3 | (simp at c3 ⊢; omega)
    clear c3
    have H' := Aside0.mk H
    clear H
    go_enter Try.func19, Try.ntmps19
    go_wp2
    repeat (go_quiet (fail); try go_wp2)
    go_loopg [5] k (fun kq v5 w' => ∃ (x5_1 : Int), v5 = .int .i64 x5_1 ∧ Aside0 (sluicegateref06_Ints.l0 kq l0 l1 x5_1 = some r) ∧ Aside0 (kq ≤ k) ∧ Drawn0 w w')
    case atStart => exact ⟨(0), (by first | rfl | (simp; done) | (simp [*]; done)), H', ⟨Nat.le_refl _⟩, by repeat (first | exact Drawn0.refl _ | apply Drawn0.step)⟩
    case round =>
      clear H'
      try clear c1
      try clear p2
      try clear c3
      try clear c3b0
      try clear c3b1
      try clear c3b2
      obtain ⟨x5_1, rfl, HA, HK1, ⟨m1, rfl⟩⟩ := hrel
      cases gk with
      | zero => exact absurd HA.out (by simp [sluicegateref06_Ints.l0])
      | succ k1 =>
        have H := HA.out
        clear HA
        simp only [sluicegateref06_Ints.l0] at H
        by_cases c4 : x5_1 < (l0.length : Int)
        · rw [if_pos c4] at H
          have c4b0 : decide (x5_1 < (l0.length : Int)) = true := decide_eq_true c4
          clear c4
          by_cases c5 : 0 ≤ x5_1
          · rw [if_pos c5] at H
            have c5b0 : decide (0 ≤ x5_1) = true := decide_eq_true c5
            clear c5
            by_cases c6 : x5_1 < (l1.length : Int)
            · rw [if_pos c6] at H
              have c6b0 : decide (x5_1 < (l1.length : Int)) = true := decide_eq_true c6
              clear c6
              by_cases c7 : (rd l0 x5_1) = (rd l1 x5_1)
              · rw [if_pos c7] at H
                have c7b0 : ((rd l0 x5_1) == (rd l1 x5_1)) = true := beq_iff_eq.mpr c7
                have c7b1 : ((rd l0 x5_1) != (rd l1 x5_1)) = false := bne_eq_false_iff_eq.mpr c7
                clear c7
                have H' := Aside0.mk H
                clear H
                have p108 : 0 ≤ (x5_1 : Int) := of_decide_eq_true (by first | (with_reducible assumption) | assumption)
                have q108 : x5_1 < (l0.length : Int) := of_decide_eq_true (by first | (with_reducible assumption) | assumption)
                obtain ⟨ad108, e108, hx108_0⟩ := Kd.at_int HR0.out x5_1 p108 q108
                cases e108
                replace p108 := eq_true p108
                replace q108 := eq_true q108
                have p109 : 0 ≤ (x5_1 : Int) := of_decide_eq_true (by first | (with_reducible assumption) | assumption)
                have q109 : x5_1 < (l1.length : Int) := of_decide_eq_true (by first | (with_reducible assumption) | assumption)
                obtain ⟨ad109, e109, hx109_0⟩ := Kd.at_int HR1.out x5_1 p109 q109
                cases e109
                replace p109 := eq_true p109
                replace q109 := eq_true q109
                go_wp2
                repeat (go_quiet (fail); try go_wp2)
                go_roundg k1
                case measure => have := HK1.out; omega
                case rel => exact ⟨(wrap64 (x5_1 + 1)), (by first | rfl | (simp; done) | (simp [*]; done)), H', ⟨by have := HK1.out; omega⟩, by repeat (first | exact Drawn0.refl _ | apply Drawn0.step)⟩
              · rw [if_neg c7] at H
                have c7b0 : ((rd l0 x5_1) == (rd l1 x5_1)) = false := beq_eq_false_iff_ne.mpr c7
                have c7b1 : ((rd l0 x5_1) != (rd l1 x5_1)) = true := bne_iff_ne.mpr c7
                obtain rfl := Option.some.inj H
                have p108 : 0 ≤ (x5_1 : Int) := of_decide_eq_true (by first | (with_reducible assumption) | assumption)
                have q108 : x5_1 < (l0.length : Int) := of_decide_eq_true (by first | (with_reducible assumption) | assumption)
                obtain ⟨ad108, e108, hx108_0⟩ := Kd.at_int HR0.out x5_1 p108 q108
                cases e108
                replace p108 := eq_true p108
                replace q108 := eq_true q108
                have p109 : 0 ≤ (x5_1 : Int) := of_decide_eq_true (by first | (with_reducible assumption) | assumption)
                have q109 : x5_1 < (l1.length : Int) := of_decide_eq_true (by first | (with_reducible assumption) | assumption)
                obtain ⟨ad109, e109, hx109_0⟩ := Kd.at_int HR1.out x5_1 p109 q109
                cases e109
                replace p109 := eq_true p109
                replace q109 := eq_true q109
                go_wp2
                repeat (go_quiet (fail); try go_wp2)
                go_ret
                exact ⟨by first | rfl | (simp; done) | (simp [*]; done), by repeat (first | exact Drawn0.refl _ | apply Drawn0.step)⟩
            · rw [if_neg c6] at H
              exact absurd H (by simp)
          · rw [if_neg c5] at H
            exact absurd H (by simp)
        · rw [if_neg c4] at H
          have c4b0 : decide (x5_1 < (l0.length : Int)) = false := decide_eq_false c4
          clear c4
          obtain rfl := Option.some.inj H
          go_wp2
          repeat (go_quiet (fail); try go_wp2)
          go_ret
          exact ⟨by first | rfl | (simp; done) | (simp [*]; done), by repeat (first | exact Drawn0.refl _ | apply Drawn0.step)⟩
  · rw [if_neg c3] at H
    have c3b0 : ((l0.length : Int) == (l1.length : Int)) = false := beq_eq_false_iff_ne.mpr c3
    have c3b1 : ((l0.length : Int) != (l1.length : Int)) = true := bne_iff_ne.mpr c3
    have c3b2 : (l0.length == l1.length) = false := by first | simpa using c3 | (simp at c3 ⊢; omega)
    obtain rfl := Option.some.inj H
    go_enter Try.func19, Try.ntmps19
    go_wp2
    repeat (go_quiet (fail); try go_wp2)
    go_ret
    exact ⟨by first | rfl | (simp; done) | (simp [*]; done), by repeat (first | exact Drawn0.refl _ | apply Drawn0.step)⟩
def record_in.f (a0 : Int) (a1 : Int) : Option (Bool) := if a0 ≥ 0 then (some (decide (a0 ≤ a1))) else (some false)
set_option maxHeartbeats 8000000 in
set_option maxRecDepth 100000 in
theorem record_in.calls (a0 : Int) (a1 : Int) (r : Bool) (w : World) (h : record_in.f a0 a1 = some r) :
    Calls Try.prog 51 #[.int .i64 a0, .int .i64 a1] w fun e w' => e = .returned (.bool r) ∧ Drawn0 w w' := by
  have H : (if a0 ≥ 0 then (some (decide (a0 ≤ a1))) else (some false)) = some r := h
  clear h
  by_cases c3 : a0 ≥ 0
  · rw [if_pos c3] at H
    have c3b0 : decide (0 ≤ a0) = true := decide_eq_true c3
    clear c3
    obtain rfl := Option.some.inj H
    go_enter Try.func51, Try.ntmps51
    go_wp2
    go_ret
    exact ⟨by first | rfl | (simp; done) | (simp [*]; done), by repeat (first | exact Drawn0.refl _ | apply Drawn0.step)⟩
  · rw [if_neg c3] at H
    have c3b0 : decide (0 ≤ a0) = false := decide_eq_false c3
    clear c3
    obtain rfl := Option.some.inj H
    go_enter Try.func51, Try.ntmps51
    go_wp2
    go_ret
    exact ⟨by first | rfl | (simp; done) | (simp [*]; done), by repeat (first | exact Drawn0.refl _ | apply Drawn0.step)⟩
mutual
def pack_Number.j0 : Nat → Int → Bool → Option (ByteArray)
  | 0, _, _ => none
  | k + 1, x0, x9 => if x9 = true then (some (⟨#[]⟩ : ByteArray)) else (pack_Number.l0 k x0 ([] : List Int))
def pack_Number.l0 : Nat → Int → List Int → Option (ByteArray)
  | 0, _, _ => none
  | k + 1, x0, x3 => if x0 ≥ 128 then (if x3.length < 140737488355328 then (pack_Number.l0 k (x0 / 128) (x3 ++ [Go.bits .or .u8 ((x0) % 256) 128])) else (none)) else (if x3.length < 140737488355328 then (some (strOfNums (x3 ++ [(x0) % 256]))) else (none))
end
def pack_Number.f (k : Nat) (a0 : Int) : Option (ByteArray) := if a0 < 0 then (pack_Number.j0 k a0 true) else (pack_Number.j0 k a0 (decide (a0 > 72057594037927935)))
set_option maxHeartbeats 8000000 in
set_option maxRecDepth 100000 in
theorem pack_Number.calls (k : Nat) (a0 : Int) (r : ByteArray) (w : World) (h : pack_Number.f k a0 = some r) :
    Calls Try.prog 56 #[.int .i64 a0] w fun e w' => e = .returned (.string r) ∧ Below w.heap.size w w' := by
  have HB := Aside0.mk (Below.refl w.heap.size w)
  have H : (if a0 < 0 then (pack_Number.j0 k a0 true) else (pack_Number.j0 k a0 (decide (a0 > 72057594037927935)))) = some r := h
  clear h
  have HC2 := Aside0.mk H
  clear H
  go_enter Try.func56, Try.ntmps56
  go_upto_region 1 with (fail)
  go_cut [9] (fun v9 wc => ∃ (kq : Nat) (x9_1 : Bool), v9 = .bool x9_1 ∧ Aside0 (pack_Number.j0 kq a0 x9_1 = some r) ∧ Aside0 (kq ≤ k) ∧ Aside0 (Below w.heap.size w wc))
  case first =>
    have H := HC2.out
    clear HC2
    by_cases c3 : a0 < 0
    · rw [if_pos c3] at H
      have c3b0 : decide (a0 < 0) = true := decide_eq_true c3
      clear c3
      (first | rw [c3b0] | (simp only [i64_w, i32_w]; rw [c3b0]) | skip)
      have H' := Aside0.mk H
      clear H
      go_wp2
      go_meet
      case rel => exact ⟨_, (true), (by first | rfl | (simp; done) | (simp [*]; done)), H', ⟨by first | omega | exact Nat.le_refl _⟩, ⟨by repeat (first | (with_reducible first | exact HB.out | apply below_alloc | apply pw_below_drewN | apply below_drew1) | exact HB.out)⟩⟩
    · rw [if_neg c3] at H
      have c3b0 : decide (a0 < 0) = false := decide_eq_false c3
      clear c3
      (first | rw [c3b0] | (simp only [i64_w, i32_w]; rw [c3b0]) | skip)
      have H' := Aside0.mk H
      clear H
      go_wp2
      go_meet
      case rel => exact ⟨_, (decide (a0 > 72057594037927935)), (by first | rfl | (simp; done) | (simp [*]; done)), H', ⟨by first | omega | exact Nat.le_refl _⟩, ⟨by repeat (first | (with_reducible first | exact HB.out | apply below_alloc | apply pw_below_drewN | apply below_drew1) | exact HB.out)⟩⟩
  case rest =>
    clear HC2
    try clear p2
    try clear c3
    try clear c3b0
    obtain ⟨kq, x9_1, rfl, HA, HJ1, HB⟩ := hcut
    cases kq with
    | zero => exact absurd HA.out (by simp [pack_Number.j0])
    | succ kj1 =>
      have H := HA.out
      clear HA
      simp only [pack_Number.j0] at H
      by_cases c4 : x9_1 = true
      · subst c4
        have H1 : (some (⟨#[]⟩ : ByteArray)) = some r := by rw [if_pos rfl] at H; exact H
        clear H
        have H := H1
        clear H1
        obtain rfl := Option.some.inj H
        go_wp2
        go_ret
        exact ⟨by first | rfl | (simp [errW_none, errW_some] <;> rfl) | (simp [*, errW_none, errW_some] <;> rfl), by repeat (first | (with_reducible first | exact HB.out | apply below_alloc | apply pw_below_drewN | apply below_drew1) | exact HB.out)⟩
      · replace c4 := Bool.eq_false_iff.mpr c4
        subst c4
        have H1 : (pack_Number.l0 kj1 a0 ([] : List Int)) = some r := by rw [if_neg (show ¬ (false = true) by decide)] at H; exact H
        clear H
        have H := H1
        clear H1
        have H' := Aside0.mk H
        clear H
        go_wp2
        go_loopg [0, 3] kj1 (fun kq v0 v3 w' => ∃ (x0_2 : Int) (x3_2 : List Int), v0 = .int .i64 x0_2 ∧ Aside0 (pack_Number.l0 kq x0_2 x3_2 = some r) ∧ Aside0 (kq ≤ kj1) ∧ Aside0 (Kd.R (Kd.int .u8) 5 w' w.heap.size (fun _ => True) v3 x3_2) ∧ Aside0 (Below w.heap.size w w'))
        case atStart => exact ⟨(a0), (([] : List Int)), (by first | rfl | (simp; done) | (simp [*]; done)), H', ⟨Nat.le_refl _⟩, ⟨by first | exact Kd.R_nil _ _ _ _ _ | exact Kd.N_nil _ _ _ _ _ | exact Kd.V_nil _ _ _ _ _ | exact Kd.Q_nil _ _ _ _ _ | exact Kd.S_nil _ _ _ _ _⟩, ⟨by repeat (first | (with_reducible first | exact HB.out | apply below_alloc | apply pw_below_drewN | apply below_drew1) | exact HB.out)⟩⟩
        case round =>
          clear H'
          try clear p2
          try clear c3
          try clear c3b0
          try clear c4
          try clear p2
          obtain ⟨x0_2, x3_2, rfl, HA, HK2, HO_3, HB⟩ := hrel
          cases gk with
          | zero => exact absurd HA.out (by simp [pack_Number.l0])
          | succ k2 =>
            have H := HA.out
            clear HA
            simp only [pack_Number.l0] at H
            by_cases c5 : x0_2 ≥ 128
            · rw [if_pos c5] at H
              have c5b0 : decide (128 ≤ x0_2) = true := decide_eq_true c5
              clear c5
              by_cases c6 : x3_2.length < 140737488355328
              · rw [if_pos c6] at H
                have LMc6 := Aside0.mk c6
                clear c6
                obtain ⟨y110, hy110⟩ : ∃ y_ : List Int, y_ = (x3_2 ++ [Go.bits .or .u8 ((x0_2) % 256) 128]) := ⟨_, rfl⟩
                replace H : (pack_Number.l0 k2 (x0_2 / 128) y110) = some r := by first | (rw [hy110]; with_reducible exact H) | (have H2_ := (Option.bind_some _ _).symm.trans H; rw [hy110]; with_reducible exact H2_) | (have H2_ := (Option.bind_some _ _).symm.trans H; with_reducible exact H2_) | with_reducible exact H | (rw [hy110]; exact H) | exact H
                have Ny110 := Aside0.mk hy110
                clear hy110
                have H' := Aside0.mk H
                clear H
                go_wp2_with (first | ((with_reducible refine gate_builtin (b := .append) (xs := #[.tmp 14, .tmp 18]) rfl ?_); at_builtin; refine Kd.R_append (Kd.int .u8) (w0 := w) w.heap.size rfl (.tmp 14) (.tmp 18) 70 5 (.int .u8 0) 1 rfl Try.underlying70 info5 rfl (by decide) (by omega) u3 x3_2 (Go.bits .or .u8 ((x0_2) % 256) 128) [.int .u8 (Go.bits .or .u8 ((x0_2) % 256) 128)] (fun _ => True) (fun _ => False) rfl rfl ?aP (fun _ hk => hk.elim) ?aF ?aO ?aB ?aS ?aL ?_; (case aP => exact rfl); (case aB => exact (by repeat (first | (with_reducible first | exact HB.out | apply below_alloc | apply pw_below_drewN | apply below_drew1) | exact HB.out))); (case aF => exact (fun _ _ => trivial)); (case aO => exact (by (with_reducible repeat (first | apply Kd.R_alloc | apply Kd.R_drewN | apply Kd.R_drew)); exact HO_3.out)); (case aS => exact (below_size (by repeat (first | (with_reducible first | exact HB.out | apply below_alloc | apply pw_below_drewN | apply below_drew1) | exact HB.out)))); (case aL => have := LMc6.out; omega); intro v111 w7 ho hb hg hat; rw [← Ny110.out] at ho; have n0_ := Aside0.mk (hb); have n1_ := Aside0.mk (ho); clear HB; clear HO_3; have HB := n0_; have HO112 := n1_; clear n0_ n1_; clear ho hb hg hat))
                go_roundg k2
                case measure => have := HJ1.out; have := HK2.out; omega
                case rel => exact ⟨(x0_2 / 128), (y110), (by first | rfl | (simp; done) | (simp [*]; done)), H', ⟨by have := HJ1.out; have := HK2.out; omega⟩, ⟨by (with_reducible repeat (first | apply Kd.R_alloc | apply Kd.R_drewN | apply Kd.R_drew)); exact HO112.out⟩, ⟨by repeat (first | (with_reducible first | exact HB.out | apply below_alloc | apply pw_below_drewN | apply below_drew1) | exact HB.out)⟩⟩
              · rw [if_neg c6] at H
                exact absurd H (by simp)
            · rw [if_neg c5] at H
              have c5b0 : decide (128 ≤ x0_2) = false := decide_eq_false c5
              clear c5
              by_cases c8 : x3_2.length < 140737488355328
              · rw [if_pos c8] at H
                have LMc8 := Aside0.mk c8
                clear c8
                obtain ⟨y113, hy113⟩ : ∃ y_ : List Int, y_ = (x3_2 ++ [(x0_2) % 256]) := ⟨_, rfl⟩
                replace H : (some (strOfNums y113)) = some r := by first | (rw [hy113]; with_reducible exact H) | (have H2_ := (Option.bind_some _ _).symm.trans H; rw [hy113]; with_reducible exact H2_) | (have H2_ := (Option.bind_some _ _).symm.trans H; with_reducible exact H2_) | with_reducible exact H | (rw [hy113]; exact H) | exact H
                have Ny113 := Aside0.mk hy113
                clear hy113
                obtain rfl := Option.some.inj H
                go_wp2_with (first | ((with_reducible refine gate_builtin (b := .append) (xs := #[.tmp 20, .tmp 23]) rfl ?_); at_builtin; refine Kd.R_append (Kd.int .u8) (w0 := w) w.heap.size rfl (.tmp 20) (.tmp 23) 70 5 (.int .u8 0) 1 rfl Try.underlying70 info5 rfl (by decide) (by omega) u3 x3_2 ((x0_2) % 256) [.int .u8 ((x0_2) % 256)] (fun _ => True) (fun _ => False) rfl rfl ?aP (fun _ hk => hk.elim) ?aF ?aO ?aB ?aS ?aL ?_; (case aP => exact rfl); (case aB => exact (by repeat (first | (with_reducible first | exact HB.out | apply below_alloc | apply pw_below_drewN | apply below_drew1) | exact HB.out))); (case aF => exact (fun _ _ => trivial)); (case aO => exact (by (with_reducible repeat (first | apply Kd.R_alloc | apply Kd.R_drewN | apply Kd.R_drew)); exact HO_3.out)); (case aS => exact (below_size (by repeat (first | (with_reducible first | exact HB.out | apply below_alloc | apply pw_below_drewN | apply below_drew1) | exact HB.out)))); (case aL => have := LMc8.out; omega); intro v114 w9 ho hb hg hat; rw [← Ny113.out] at ho; have n0_ := Aside0.mk (hb); have n1_ := Aside0.mk (ho); clear HB; clear HO_3; have HB := n0_; have HO115 := n1_; clear n0_ n1_; clear ho hb hg hat; have hcv10 := own_string (P := Try.prog) Try.underlying70 Try.underlying5 Try.underlying9 (Kd.own_of_R HO115.out)))
                go_ret
                exact ⟨by first | rfl | (simp [errW_none, errW_some] <;> rfl) | (simp [*, errW_none, errW_some] <;> rfl), by repeat (first | (with_reducible first | exact HB.out | apply below_alloc | apply pw_below_drewN | apply below_drew1) | exact HB.out)⟩
              · rw [if_neg c8] at H
                exact absurd H (by simp)
def pack_Text.f (k : Nat) (a0 : ByteArray) : Option (ByteArray) := (pack_Number.f k (a0.size : Int)).bind fun t116 => (if t116.size + a0.size ≤ 9223372036854775807 then (some (t116 ++ a0)) else (none))
set_option maxHeartbeats 8000000 in
set_option maxRecDepth 100000 in
theorem pack_Text.calls (k : Nat) (a0 : ByteArray) (r : ByteArray) (w : World) (h : pack_Text.f k a0 = some r) :
    Calls Try.prog 34 #[.string a0] w fun e w' => e = .returned (.string r) ∧ Below w.heap.size w w' := by
  have HB := Aside0.mk (Below.refl w.heap.size w)
  have H : ((pack_Number.f k (a0.size : Int)).bind fun t116 => (if t116.size + a0.size ≤ 9223372036854775807 then (some (t116 ++ a0)) else (none))) = some r := h
  clear h
  replace H := Option.bind_eq_some_iff.mp H
  obtain ⟨t116, A20, H⟩ := H
  replace H : (if t116.size + a0.size ≤ 9223372036854775807 then (some (t116 ++ a0)) else (none)) = some r := H
  have A2 := Aside0.mk A20
  clear A20
  by_cases c3 : t116.size + a0.size ≤ 9223372036854775807
  · rw [if_pos c3] at H
    have c3b0 := eq_true c3
    have c3b1 : decide (t116.size + a0.size ≤ 9223372036854775807) = true := decide_eq_true c3
    try have c3b2 : (9223372036854775807 < t116.size + a0.size) = False := eq_false (Nat.not_lt.2 c3)
    obtain rfl := Option.some.inj H
    go_enter Try.func34, Try.ntmps34
    go_wp2_with (first | ((with_reducible refine gate_callee (f := 56) rfl ?_); refine goesL_ (some 5) rfl rfl Try.func56 (by kernel_rfl) rfl #[.int .i64 (a0.size : Int)] rfl (by (try simp only [List.map_toArray, List.map_cons, List.map_nil]); first | done | rfl | (simp only [List.length_drop, List.length_take]; rfl)) ?_; (with_reducible refine (pack_Number.calls k (a0.size : Int) t116 _ A2.out).mono ?_); rintro e w4 ⟨rfl, hb⟩; refine ⟨_, rfl, ?_⟩; have n0_ := Aside0.mk (below_step (by repeat (first | (with_reducible first | exact HB.out | apply below_alloc | apply pw_below_drewN | apply below_drew1) | exact HB.out)) hb); clear HB; have HB := n0_; clear n0_; (try clear hb); (try clear hb2); (try clear hk); (try clear hi)))
    go_ret
    exact ⟨by first | rfl | (simp [errW_none, errW_some] <;> rfl) | (simp [*, errW_none, errW_some] <;> rfl), by repeat (first | (with_reducible first | exact HB.out | apply below_alloc | apply pw_below_drewN | apply below_drew1) | exact HB.out)⟩
  · rw [if_neg c3] at H
    exact absurd H (by simp)
def check_Seal.f (a0 : ByteArray) : Option (ByteArray) := (check_Of.f a0).bind fun t118 => ((check_bytes.f t118).bind fun t119 => (if a0.size + t119.size ≤ 9223372036854775807 then (some (a0 ++ t119)) else (none)))
set_option maxHeartbeats 8000000 in
set_option maxRecDepth 100000 in
theorem check_Seal.calls (a0 : ByteArray) (r : ByteArray) (w : World) (h : check_Seal.f a0 = some r) :
    Calls Try.prog 35 #[.string a0] w fun e w' => e = .returned (.string r) ∧ Below w.heap.size w w' := by
  have HB := Aside0.mk (Below.refl w.heap.size w)
  have H : ((check_Of.f a0).bind fun t118 => ((check_bytes.f t118).bind fun t119 => (if a0.size + t119.size ≤ 9223372036854775807 then (some (a0 ++ t119)) else (none)))) = some r := h
  clear h
  replace H := Option.bind_eq_some_iff.mp H
  obtain ⟨t118, A20, H⟩ := H
  replace H : ((check_bytes.f t118).bind fun t119 => (if a0.size + t119.size ≤ 9223372036854775807 then (some (a0 ++ t119)) else (none))) = some r := H
  have A2 := Aside0.mk A20
  clear A20
  replace H := Option.bind_eq_some_iff.mp H
  obtain ⟨t119, A30, H⟩ := H
  replace H : (if a0.size + t119.size ≤ 9223372036854775807 then (some (a0 ++ t119)) else (none)) = some r := H
  have A3 := Aside0.mk A30
  clear A30
  by_cases c4 : a0.size + t119.size ≤ 9223372036854775807
  · rw [if_pos c4] at H
    have c4b0 := eq_true c4
    have c4b1 : decide (a0.size + t119.size ≤ 9223372036854775807) = true := decide_eq_true c4
    try have c4b2 : (9223372036854775807 < a0.size + t119.size) = False := eq_false (Nat.not_lt.2 c4)
    obtain rfl := Option.some.inj H
    go_enter Try.func35, Try.ntmps35
    go_wp2_with (first | ((with_reducible refine gate_callee (f := 58) rfl ?_); refine goesL_ (some 5) rfl rfl Try.func58 (by kernel_rfl) rfl #[.string a0] rfl (by (try simp only [List.map_toArray, List.map_cons, List.map_nil]); first | done | rfl | (simp only [List.length_drop, List.length_take]; rfl)) ?_; (with_reducible refine (check_Of.calls a0 t118 _ A2.out).mono ?_); rintro e w5 ⟨rfl, hb⟩; refine ⟨_, rfl, ?_⟩; have n0_ := Aside0.mk (below_step (by repeat (first | (with_reducible first | exact HB.out | apply below_alloc | apply pw_below_drewN | apply below_drew1) | exact HB.out)) hb); clear HB; have HB := n0_; clear n0_; (try clear hb); (try clear hb2); (try clear hk); (try clear hi)) | ((with_reducible refine gate_callee (f := 57) rfl ?_); refine goesL_ (some 6) rfl rfl Try.func57 (by kernel_rfl) rfl #[.int .u32 t118] rfl (by (try simp only [List.map_toArray, List.map_cons, List.map_nil]); first | done | rfl | (simp only [List.length_drop, List.length_take]; rfl)) ?_; (with_reducible refine (check_bytes.calls t118 t119 _ A3.out).mono ?_); rintro e w6 ⟨rfl, hb⟩; refine ⟨_, rfl, ?_⟩; have n0_ := Aside0.mk (below_step (by repeat (first | (with_reducible first | exact HB.out | apply below_alloc | apply pw_below_drewN | apply below_drew1) | exact HB.out)) hb); clear HB; have HB := n0_; clear n0_; (try clear hb); (try clear hb2); (try clear hk); (try clear hi)))
    go_ret
    exact ⟨by first | rfl | (simp [errW_none, errW_some] <;> rfl) | (simp [*, errW_none, errW_some] <;> rfl), by repeat (first | (with_reducible first | exact HB.out | apply below_alloc | apply pw_below_drewN | apply below_drew1) | exact HB.out)⟩
  · rw [if_neg c4] at H
    exact absurd H (by simp)
end Go.Proofs.Ytmfcbfgijimliaa.Q
end
section
namespace Go.Proofs.Ytmfcbfgijimliaa.Q
open Go.RowKit Go.Proofs.YtmfcbfgijimliaaW.PrintWords Go.Proofs.YtmfcbfgijimliaaW.PrintLast Go.Proofs.YtmfcbfgijimliaaW.PrintMore
attribute [local go_sem] max2_int min2_int max_two min_two max_three min_three max_four min_four   -- for this text's walks alone
set_option linter.unusedVariables false
set_option linter.unusedSimpArgs false
attribute [local go_sem high] eqA83
def sluicegateref10_Is.f (a0_0 : Int) (a0_1 : Int) : Option (Bool) := if a0_0 ≥ 0 then (if a0_0 < 12 then (if a0_1 ≥ 0 then (some (decide (a0_1 < 48))) else (some false)) else (some false)) else (some false)
end Go.Proofs.Ytmfcbfgijimliaa.Q
end
section
namespace Go.Proofs.Ytmfcbfgijimliaa.Q
open Go.RowKit Go.Proofs.YtmfcbfgijimliaaW.PrintWords Go.Proofs.YtmfcbfgijimliaaW.PrintLast Go.Proofs.YtmfcbfgijimliaaW.PrintMore
attribute [local go_sem] max2_int min2_int max_two min_two max_three min_three max_four min_four   -- for this text's walks alone
set_option linter.unusedVariables false
set_option linter.unusedSimpArgs false
mutual
def sluicegateref11_Volume.j0 : Nat → Bool → Int → Int → Int → List (S83) → Option (Bool)
  | 0, _, _, _, _, _ => none
  | k + 1, x30, x147000, x147001, x147002, x147003 => if x30 = true then (some false) else (sluicegateref11_Volume.l0 k 0 x147000 x147001 x147002 x147003)
def sluicegateref11_Volume.l0 : Nat → Int → Int → Int → Int → List (S83) → Option (Bool)
  | 0, _, _, _, _, _ => none
  | k + 1, x3, x147000, x147001, x147002, x147003 => if x3 < 9 then (if 0 ≤ x3 then (if x3 < (x147003.length : Int) then ((sluicegateref10_Is.f ((rd_T83 x147003 x3).f0) ((rd_T83 x147003 x3).f1)).bind fun t150 => (if t150 = true then (sluicegateref11_Volume.l1 k x3 0 x147000 x147001 x147002 x147003) else (some false))) else (none)) else (none)) else (some true)
def sluicegateref11_Volume.l1 : Nat → Int → Int → Int → Int → Int → List (S83) → Option (Bool)
  | 0, _, _, _, _, _, _ => none
  | k + 1, x3, x4, x147000, x147001, x147002, x147003 => if x4 < x3 then (if 0 ≤ x4 then (if x4 < (x147003.length : Int) then (if 0 ≤ x3 then (if x3 < (x147003.length : Int) then (if ((rd_T83 x147003 x4).f0) = ((rd_T83 x147003 x3).f0) then (some false) else (sluicegateref11_Volume.l1 k x3 (wrap64 (x4 + 1)) x147000 x147001 x147002 x147003)) else (none)) else (none)) else (none)) else (none)) else (sluicegateref11_Volume.l0 k (wrap64 (x3 + 1)) x147000 x147001 x147002 x147003)
end
end Go.Proofs.Ytmfcbfgijimliaa.Q
end
section
namespace Go.Proofs.Ytmfcbfgijimliaa.Q
end Go.Proofs.Ytmfcbfgijimliaa.Q
end
section
namespace Go.Proofs.Ytmfcbfgijimliaa.Q
open Go.RowKit Go.Proofs.YtmfcbfgijimliaaW.PrintWords Go.Proofs.YtmfcbfgijimliaaW.PrintLast Go.Proofs.YtmfcbfgijimliaaW.PrintMore
attribute [local go_sem] max2_int min2_int max_two min_two max_three min_three max_four min_four   -- for this text's walks alone
set_option linter.unusedVariables false
set_option linter.unusedSimpArgs false
def IsS90 (w0 W : World) (g : Nat) (f0 : ByteArray) (f1 : Int) : Prop := W.heap[g]? = some (.cells #[.string f0, .int .i64 f1] 90 (0, 0)) ∧ w0.heap.size ≤ g
theorem IsS90.grown {w0 W : World} {g : Nat} {f0 : ByteArray} {f1 : Int} {W1 : World} {row : Option Nat} (h : IsS90 w0 W g f0 f1) (hw : W.grownBy W1 row) (hne : some g ≠ row) : IsS90 w0 W1 g f0 f1 := by
  obtain ⟨hb, hg⟩ := h
  exact ⟨blk_grown hb hw hne, hg⟩
theorem IsS90.fresh {w0 W : World} {g : Nat} {f0 : ByteArray} {f1 : Int} (h : IsS90 w0 W g f0 f1) : ∀ k, W.heap.size ≤ k → k ≠ g := by
  obtain ⟨hb, hg⟩ := h
  exact Kd.freshB hb
theorem IsS90.kept {w0 W : World} {g : Nat} {f0 : ByteArray} {f1 : Int} {W1 : World} {S : Nat → Prop} (h : IsS90 w0 W g f0 f1) (hk : Kept W W1 S) (hne : ¬ S g) : IsS90 w0 W1 g f0 f1 := by
  obtain ⟨hb, hg⟩ := h
  exact ⟨blk_kept hb hk hne, hg⟩
theorem IsS90.below {w0 W : World} {g : Nat} {f0 : ByteArray} {f1 : Int} {W1 : World} (h : IsS90 w0 W g f0 f1) (hw : Below W.heap.size W W1) : IsS90 w0 W1 g f0 f1 := h.grown (grown_of_below hw none) (by simp)
theorem IsS90.alloc {w0 W : World} {g : Nat} {f0 : ByteArray} {f1 : Int} (h : IsS90 w0 W g f0 f1) (o : Obj) : IsS90 w0 (W.alloc o) g f0 f1 := h.below (below_alloc (Below.refl _ _) o)
theorem IsS90.drewN {w0 W : World} {g : Nat} {f0 : ByteArray} {f1 : Int} (h : IsS90 w0 W g f0 f1) (m : Nat) : IsS90 w0 (W.drewN m) g f0 f1 := h
theorem IsS90.drew {w0 W : World} {g : Nat} {f0 : ByteArray} {f1 : Int} (h : IsS90 w0 W g f0 f1) : IsS90 w0 W.drew g f0 f1 := h
theorem IsS90.at_ {w0 W : World} {g : Nat} {f0 : ByteArray} {f1 : Int} {w' : World} {m : Nat} (hq : W.drewN m = w') (h : IsS90 w0 W g f0 f1) : IsS90 w0 w' g f0 f1 := by subst hq; exact IsS90.drewN h m
theorem IsS90.apart {w0 W : World} {g : Nat} {f0 : ByteArray} {f1 : Int} {α : Type} {d : Kd α} {e : Nat} {base : Nat} {ok : Nat → Prop} {v : Value} {xs : List α} (h : IsS90 w0 W g f0 f1) (ho : d.R e W base ok v xs) (ht : ∀ q, q ∈ e :: d.E → q ≠ 90) : d.R e W base (fun k => ok k ∧ k ≠ g) v xs := by
  obtain ⟨hb, hg⟩ := h
  exact Kd.R_types ho hb ht
theorem IsS90.own_ne {w0 W : World} {g : Nat} {f0 : ByteArray} {f1 : Int} {α : Type} {d : Kd α} {e : Nat} {base : Nat} {ok : Nat → Prop} {v : Value} {xs : List α} (h : IsS90 w0 W g f0 f1) (ho : d.R e W base ok v xs) (ht : e ≠ 90) : some g ≠ v.ownBlock := by
  obtain ⟨hb, hg⟩ := h
  exact Kd.R_ne ho hb ht
theorem IsS90.lt {w0 W : World} {g : Nat} {f0 : ByteArray} {f1 : Int} (h : IsS90 w0 W g f0 f1) : g < W.heap.size := by
  obtain ⟨hb, hg⟩ := h
  exact blk_lt hb
theorem IsS90.ge {w0 W : World} {g : Nat} {f0 : ByteArray} {f1 : Int} (h : IsS90 w0 W g f0 f1) : w0.heap.size ≤ g := by
  obtain ⟨hb, hg⟩ := h
  exact hg
theorem IsS90.far {w0 W : World} {g : Nat} {f0 : ByteArray} {f1 : Int} {p : Addr} (h : IsS90 w0 W g f0 f1) (hne : g ≠ p.block) (u : Value) : IsS90 w0 (W.setCell p u) g f0 f1 := by
  obtain ⟨hb, hg⟩ := h
  exact ⟨blk_far hb hne u, hg⟩
theorem IsS90.set_0 {w0 W : World} {g : Nat} {f0 : ByteArray} {f1 : Int} (h : IsS90 w0 W g f0 f1) (x : ByteArray) : IsS90 w0 (W.setCell ⟨g, 0, none⟩ (.string x)) g x f1 := by
  obtain ⟨hb, hg⟩ := h
  exact ⟨by simpa using blk_set hb 0 (.string x), hg⟩
theorem IsS90.set_1 {w0 W : World} {g : Nat} {f0 : ByteArray} {f1 : Int} (h : IsS90 w0 W g f0 f1) (x : Int) : IsS90 w0 (W.setCell ⟨g, 1, none⟩ (.int .i64 x)) g f0 x := by
  obtain ⟨hb, hg⟩ := h
  exact ⟨by simpa using blk_set hb 1 (.int .i64 x), hg⟩
theorem IsS90.new (w0 W : World) (f0 : ByteArray) (f1 : Int) (hB : Below w0.heap.size w0 W) : IsS90 w0 (W.alloc (.cells #[.string f0, .int .i64 f1] 90)) W.heap.size f0 f1 := ⟨by simpa using heap_alloc_new W _, hB.size⟩
def check_Open.f (a0 : ByteArray) : Option (ByteArray × Int) := if (wrap64 ((a0.size : Int) - 4)) < 0 then (some ((⟨#[]⟩ : ByteArray), 3)) else (if 0 ≤ (wrap64 ((a0.size : Int) - 4)) then (if (wrap64 ((a0.size : Int) - 4)) ≤ (a0.size : Int) then ((check_Of.f (a0.extract 0 ((wrap64 ((a0.size : Int) - 4)) : Int).toNat)).bind fun t291 => ((check_bytes.f t291).bind fun t292 => (if (a0.extract ((wrap64 ((a0.size : Int) - 4)) : Int).toNat a0.size).toList = t292.toList then (some (a0.extract 0 ((wrap64 ((a0.size : Int) - 4)) : Int).toNat, 0)) else (some ((⟨#[]⟩ : ByteArray), 5))))) else (none)) else (none))
def check_Open.T4 : Bool × List (List Nat × List Nat) := (true, [([], []), ([], []), ([0, 1], [0, 1]), ([], []), ([], []), ([3, 4], [3, 4]), ([5], [5]), ([6, 6], [6]), ([2, 7], [2, 7]), ([8, 7], [8])])
def check_Open.B4 : List Nat := [0, 0, 3, 0, 0, 24, 56, 120, 255, 511]
theorem check_Open.tab4 : rtab .any (opsOf Try.f59 4) = check_Open.T4 := by kernel_rfl
theorem check_Open.bits4 : waitsOk check_Open.T4.2 check_Open.B4 = true := by kernel_rfl
set_option maxHeartbeats 8000000 in
set_option maxRecDepth 100000 in
theorem check_Open.calls (a0 : ByteArray) (r1 : ByteArray) (r2 : Int) (w : World) (h : check_Open.f a0 = some (r1, r2)) :
    Calls Try.prog 59 #[.string a0] w fun e w' => e = .returned (.tuple #[.string r1, .int .i64 r2]) ∧ Below w.heap.size w w' := by
  have HB := Aside0.mk (Below.refl w.heap.size w)
  have H : (if (wrap64 ((a0.size : Int) - 4)) < 0 then (some ((⟨#[]⟩ : ByteArray), 3)) else (if 0 ≤ (wrap64 ((a0.size : Int) - 4)) then (if (wrap64 ((a0.size : Int) - 4)) ≤ (a0.size : Int) then ((check_Of.f (a0.extract 0 ((wrap64 ((a0.size : Int) - 4)) : Int).toNat)).bind fun t291 => ((check_bytes.f t291).bind fun t292 => (if (a0.extract ((wrap64 ((a0.size : Int) - 4)) : Int).toNat a0.size).toList = t292.toList then (some (a0.extract 0 ((wrap64 ((a0.size : Int) - 4)) : Int).toNat, 0)) else (some ((⟨#[]⟩ : ByteArray), 5))))) else (none)) else (none))) = some (r1, r2) := h
  clear h
  by_cases c2 : (wrap64 ((a0.size : Int) - 4)) < 0
  · rw [if_pos c2] at H
    have c2b0 : decide ((wrap64 ((a0.size : Int) - 4)) < 0) = true := decide_eq_true c2
    clear c2
    simp only [Option.some.injEq, Prod.mk.injEq] at H
    obtain ⟨rfl, rfl⟩ := H
    go_enter Try.func59, Try.ntmps59
    go_wp2
    go_ret2
    exact ⟨by first | rfl | (simp [errW_none, errW_some] <;> rfl) | (simp [*, errW_none, errW_some] <;> rfl), by repeat (first | (with_reducible first | exact HB.out | apply below_alloc | apply pw_below_drewN | apply below_drew1) | exact HB.out)⟩
  · rw [if_neg c2] at H
    have c2b0 : decide ((wrap64 ((a0.size : Int) - 4)) < 0) = false := decide_eq_false c2
    clear c2
    obtain ⟨ji3, hji3⟩ : ∃ j_ : Int, (wrap64 ((a0.size : Int) - 4)) = j_ := ⟨_, rfl⟩
    replace H : (if 0 ≤ (ji3) then (if (ji3) ≤ (a0.size : Int) then ((check_Of.f (a0.extract 0 ((ji3) : Int).toNat)).bind fun t291 => ((check_bytes.f t291).bind fun t292 => (if (a0.extract ((ji3) : Int).toNat a0.size).toList = t292.toList then (some (a0.extract 0 ((ji3) : Int).toNat, 0)) else (some ((⟨#[]⟩ : ByteArray), 5))))) else (none)) else (none)) = some (r1, r2) := by first | (rw [hji3] at H; exact H) | (simp only [hji3] at H ⊢; exact H)
    (try rw [hji3] at c2b0)
    have hji3w : (IntKind.i64.wrap ((a0.size : Int) - 4)) = ji3 := (i64_w _).trans hji3
    by_cases c4 : 0 ≤ (ji3)
    · rw [if_pos c4] at H
      have c4b0 := eq_true c4
      have c4b1 : decide (0 ≤ (ji3)) = true := decide_eq_true c4
      clear c4
      by_cases c5 : (ji3) ≤ (a0.size : Int)
      · rw [if_pos c5] at H
        have c5b0 := eq_true c5
        have c5b1 : decide ((ji3) ≤ (a0.size : Int)) = true := decide_eq_true c5
        clear c5
        have c6b0 := eq_true (of_decide_eq_true (by first | (with_reducible assumption) | assumption) : 0 ≤ (ji3))
        have c7b0 := eq_true (of_decide_eq_true (by first | (with_reducible assumption) | assumption) : (ji3) ≤ (a0.size : Int))
        replace H := Option.bind_eq_some_iff.mp H
        obtain ⟨t291, A80, H⟩ := H
        replace H : ((check_bytes.f t291).bind fun t292 => (if (a0.extract ((ji3) : Int).toNat a0.size).toList = t292.toList then (some (a0.extract 0 ((ji3) : Int).toNat, 0)) else (some ((⟨#[]⟩ : ByteArray), 5)))) = some (r1, r2) := H
        have A8 := Aside0.mk A80
        clear A80
        replace H := Option.bind_eq_some_iff.mp H
        obtain ⟨t292, A90, H⟩ := H
        replace H : (if (a0.extract ((ji3) : Int).toNat a0.size).toList = t292.toList then (some (a0.extract 0 ((ji3) : Int).toNat, 0)) else (some ((⟨#[]⟩ : ByteArray), 5))) = some (r1, r2) := H
        have A9 := Aside0.mk A90
        clear A90
        by_cases c10 : (a0.extract ((ji3) : Int).toNat a0.size).toList = t292.toList
        · rw [if_pos c10] at H
          have c10b0 : ((a0.extract ((ji3) : Int).toNat a0.size).toList == t292.toList) = true := beq_iff_eq.mpr c10
          have c10b1 : ((a0.extract ((ji3) : Int).toNat a0.size).toList != t292.toList) = false := bne_eq_false_iff_eq.mpr c10
          clear c10
          have c11b0 := eq_true (of_decide_eq_true (by first | (with_reducible assumption) | assumption) : 0 ≤ (ji3))
          have c12b0 := eq_true (of_decide_eq_true (by first | (with_reducible assumption) | assumption) : (ji3) ≤ (a0.size : Int))
          simp only [Option.some.injEq, Prod.mk.injEq] at H
          obtain ⟨rfl, rfl⟩ := H
          go_enter Try.func59, Try.ntmps59
          try go_wp2
          have n0_ := Aside0.mk (below_drew1 HB.out)
          clear HB
          have HB := n0_
          clear n0_
          refine start_ (n := 10) (S := fun w' => True) (ds := []) #[false, false, false, false, false, false, false, false, false, false] (by kernel_rfl) rfl rfl trivial (fun hHeld => ?_); refine with_tabW check_Open.tab4 check_Open.bits4 (fun HT_ HW_ => ?_)
          generalize w.drew = w13 at HB hHeld ⊢
          refine pure_ (i := 0) (N := some 12) (v := ?_) (a' := ?_) #[true, false, false, false, false, false, false, false, false, false] rfl rfl (any_of HT_.out (by kernel_rfl)) (fun _ _ _ h => h) (Or.inl ⟨by rfl, ?_⟩) ?_ ?_
          rotate_left
          · intro w'
            go_simp
            with_reducible rfl
          rotate_left
          · simp only [Act.put, List.setIfInBounds_toArray, List.set_cons_zero, List.set_cons_succ, i64_w, i32_w]
            rfl
          refine pure_ (i := 1) (N := some 13) (v := ?_) (a' := ?_) #[true, true, false, false, false, false, false, false, false, false] rfl rfl (any_of HT_.out (by kernel_rfl)) (fun _ _ _ h => h) (Or.inl ⟨by rfl, ?_⟩) ?_ ?_
          rotate_left
          · intro w'
            go_simp
            with_reducible rfl
          rotate_left
          · simp only [Act.put, List.setIfInBounds_toArray, List.set_cons_zero, List.set_cons_succ, i64_w, i32_w]
            rfl
          refine pure_ (i := 2) (N := some 14) (v := ?_) (a' := ?_) #[true, true, true, false, false, false, false, false, false, false] rfl rfl (any_of HT_.out (by kernel_rfl)) (fun _ _ _ h => h) (Or.inl ⟨by rfl, ?_⟩) ?_ ?_
          rotate_left
          · intro w'
            go_simp
            with_reducible rfl
          rotate_left
          · simp only [Act.put, List.setIfInBounds_toArray, List.set_cons_zero, List.set_cons_succ, i64_w, i32_w]
            rfl
          refine pure_ (i := 3) (N := some 15) (v := ?_) (a' := ?_) #[true, true, true, true, false, false, false, false, false, false] rfl rfl (any_of HT_.out (by kernel_rfl)) (fun _ _ _ h => h) (Or.inl ⟨by rfl, ?_⟩) ?_ ?_
          rotate_left
          · intro w'
            go_simp
            with_reducible rfl
          rotate_left
          · simp only [Act.put, List.setIfInBounds_toArray, List.set_cons_zero, List.set_cons_succ, i64_w, i32_w]
            rfl
          refine pure_ (i := 4) (N := some 16) (v := ?_) (a' := ?_) #[true, true, true, true, true, false, false, false, false, false] rfl rfl (any_of HT_.out (by kernel_rfl)) (fun _ _ _ h => h) (Or.inl ⟨by rfl, ?_⟩) ?_ ?_
          rotate_left
          · intro w'
            go_simp
            with_reducible rfl
          rotate_left
          · simp only [Act.put, List.setIfInBounds_toArray, List.set_cons_zero, List.set_cons_succ, i64_w, i32_w]
            rfl
          refine pure_ (i := 5) (N := some 17) (v := ?_) (a' := ?_) #[true, true, true, true, true, true, false, false, false, false] rfl rfl (any_of HT_.out (by kernel_rfl)) (fun _ _ _ h => h) (Or.inl ⟨by rfl, ?_⟩) ?_ ?_
          rotate_left
          · intro w'
            go_simp
            with_reducible rfl
          rotate_left
          · simp only [Act.put, List.setIfInBounds_toArray, List.set_cons_zero, List.set_cons_succ, i64_w, i32_w]
            rfl
          refine one_ (i := 6) (N := some 18) #[true, true, true, true, true, true, true, false, false, false] rfl rfl (one_of HT_.out (by kernel_rfl)) (by decide) (fun K hK => ?_)
          refine goes_ Try.func58 (by kernel_rfl) rfl #[.string (a0.extract 0 ((ji3) : Int).toNat)] (by rfl) rfl rfl (by (try simp only [List.map_toArray, List.map_cons, List.map_nil]); first | done | (simp only [hji3]; rfl) | rfl | (simp only [List.length_drop, List.length_take]; rfl)) ?_
          with_reducible refine (check_Of.calls (a0.extract 0 ((ji3) : Int).toNat) t291 _ A8.out).mono ?_
          rintro e w14 ⟨rfl, hb⟩
          refine ⟨_, rfl, ?_⟩
          have n0_ := Aside0.mk (below_step (by repeat (first | (with_reducible first | exact HB.out | apply below_alloc | apply pw_below_drewN | apply below_drew1) | exact HB.out)) hb)
          clear HB
          have HB := n0_
          clear n0_
          (try clear hb)
          (try clear hb2)
          (try clear hk)
          (try clear hi)
          refine hK.out _ _ trivial (fun hHeld => ?_)
          clear hK K
          refine norm_ (a' := ?_) ?_ ?_
          rotate_left
          · show Act.put _ (some 18) _ = _
            simp only [Act.put, List.setIfInBounds_toArray, List.set_cons_zero, List.set_cons_succ, i64_w, i32_w]
            rfl
          refine one_ (i := 7) (N := some 19) #[true, true, true, true, true, true, true, true, false, false] rfl rfl (one_of HT_.out (by kernel_rfl)) (by decide) (fun K hK => ?_)
          refine goes_ Try.func57 (by kernel_rfl) rfl #[.int .u32 t291] (by rfl) rfl rfl (by (try simp only [List.map_toArray, List.map_cons, List.map_nil]); first | done | rfl | (simp only [List.length_drop, List.length_take]; rfl)) ?_
          with_reducible refine (check_bytes.calls t291 t292 _ A9.out).mono ?_
          rintro e w15 ⟨rfl, hb⟩
          refine ⟨_, rfl, ?_⟩
          have n0_ := Aside0.mk (below_step (by repeat (first | (with_reducible first | exact HB.out | apply below_alloc | apply pw_below_drewN | apply below_drew1) | exact HB.out)) hb)
          clear HB
          have HB := n0_
          clear n0_
          (try clear hb)
          (try clear hb2)
          (try clear hk)
          (try clear hi)
          refine hK.out _ _ trivial (fun hHeld => ?_)
          clear hK K
          refine norm_ (a' := ?_) ?_ ?_
          rotate_left
          · show Act.put _ (some 19) _ = _
            simp only [Act.put, List.setIfInBounds_toArray, List.set_cons_zero, List.set_cons_succ, i64_w, i32_w]
            rfl
          refine pure_ (i := 8) (N := some 20) (v := ?_) (a' := ?_) #[true, true, true, true, true, true, true, true, true, false] rfl rfl (any_of HT_.out (by kernel_rfl)) (fun _ _ _ h => h) (Or.inl ⟨by rfl, ?_⟩) ?_ ?_
          rotate_left
          · intro w'
            go_simp
            with_reducible rfl
          rotate_left
          · simp only [Act.put, List.setIfInBounds_toArray, List.set_cons_zero, List.set_cons_succ, i64_w, i32_w]
            rfl
          refine pure_ (i := 9) (N := some 11) (v := ?_) (a' := ?_) #[true, true, true, true, true, true, true, true, true, true] rfl rfl (any_of HT_.out (by kernel_rfl)) (fun _ _ _ h => h) (Or.inl ⟨by rfl, ?_⟩) ?_ ?_
          rotate_left
          · intro w'
            go_simp
            with_reducible rfl
          rotate_left
          · simp only [Act.put, List.setIfInBounds_toArray, List.set_cons_zero, List.set_cons_succ, i64_w, i32_w]
            rfl
          refine done_ (done_of HT_.out (by kernel_rfl)) ?_
          try go_wp2
          go_ret2
          exact ⟨by first | rfl | (simp [errW_none, errW_some] <;> rfl) | (simp only [← hji3]; first | rfl | (simp [errW_none, errW_some] <;> rfl)) | (simp [*, errW_none, errW_some] <;> rfl), by repeat (first | (with_reducible first | exact HB.out | apply below_alloc | apply pw_below_drewN | apply below_drew1) | exact HB.out)⟩
        · rw [if_neg c10] at H
          have c10b0 : ((a0.extract ((ji3) : Int).toNat a0.size).toList == t292.toList) = false := beq_eq_false_iff_ne.mpr c10
          have c10b1 : ((a0.extract ((ji3) : Int).toNat a0.size).toList != t292.toList) = true := bne_iff_ne.mpr c10
          simp only [Option.some.injEq, Prod.mk.injEq] at H
          obtain ⟨rfl, rfl⟩ := H
          go_enter Try.func59, Try.ntmps59
          try go_wp2
          have n0_ := Aside0.mk (below_drew1 HB.out)
          clear HB
          have HB := n0_
          clear n0_
          refine start_ (n := 10) (S := fun w' => True) (ds := []) #[false, false, false, false, false, false, false, false, false, false] (by kernel_rfl) rfl rfl trivial (fun hHeld => ?_); refine with_tabW check_Open.tab4 check_Open.bits4 (fun HT_ HW_ => ?_)
          generalize w.drew = w16 at HB hHeld ⊢
          refine pure_ (i := 0) (N := some 12) (v := ?_) (a' := ?_) #[true, false, false, false, false, false, false, false, false, false] rfl rfl (any_of HT_.out (by kernel_rfl)) (fun _ _ _ h => h) (Or.inl ⟨by rfl, ?_⟩) ?_ ?_
          rotate_left
          · intro w'
            go_simp
            with_reducible rfl
          rotate_left
          · simp only [Act.put, List.setIfInBounds_toArray, List.set_cons_zero, List.set_cons_succ, i64_w, i32_w]
            rfl
          refine pure_ (i := 1) (N := some 13) (v := ?_) (a' := ?_) #[true, true, false, false, false, false, false, false, false, false] rfl rfl (any_of HT_.out (by kernel_rfl)) (fun _ _ _ h => h) (Or.inl ⟨by rfl, ?_⟩) ?_ ?_
          rotate_left
          · intro w'
            go_simp
            with_reducible rfl
          rotate_left
          · simp only [Act.put, List.setIfInBounds_toArray, List.set_cons_zero, List.set_cons_succ, i64_w, i32_w]
            rfl
          refine pure_ (i := 2) (N := some 14) (v := ?_) (a' := ?_) #[true, true, true, false, false, false, false, false, false, false] rfl rfl (any_of HT_.out (by kernel_rfl)) (fun _ _ _ h => h) (Or.inl ⟨by rfl, ?_⟩) ?_ ?_
          rotate_left
          · intro w'
            go_simp
            with_reducible rfl
          rotate_left
          · simp only [Act.put, List.setIfInBounds_toArray, List.set_cons_zero, List.set_cons_succ, i64_w, i32_w]
            rfl
          refine pure_ (i := 3) (N := some 15) (v := ?_) (a' := ?_) #[true, true, true, true, false, false, false, false, false, false] rfl rfl (any_of HT_.out (by kernel_rfl)) (fun _ _ _ h => h) (Or.inl ⟨by rfl, ?_⟩) ?_ ?_
          rotate_left
          · intro w'
            go_simp
            with_reducible rfl
          rotate_left
          · simp only [Act.put, List.setIfInBounds_toArray, List.set_cons_zero, List.set_cons_succ, i64_w, i32_w]
            rfl
          refine pure_ (i := 4) (N := some 16) (v := ?_) (a' := ?_) #[true, true, true, true, true, false, false, false, false, false] rfl rfl (any_of HT_.out (by kernel_rfl)) (fun _ _ _ h => h) (Or.inl ⟨by rfl, ?_⟩) ?_ ?_
          rotate_left
          · intro w'
            go_simp
            with_reducible rfl
          rotate_left
          · simp only [Act.put, List.setIfInBounds_toArray, List.set_cons_zero, List.set_cons_succ, i64_w, i32_w]
            rfl
          refine pure_ (i := 5) (N := some 17) (v := ?_) (a' := ?_) #[true, true, true, true, true, true, false, false, false, false] rfl rfl (any_of HT_.out (by kernel_rfl)) (fun _ _ _ h => h) (Or.inl ⟨by rfl, ?_⟩) ?_ ?_
          rotate_left
          · intro w'
            go_simp
            with_reducible rfl
          rotate_left
          · simp only [Act.put, List.setIfInBounds_toArray, List.set_cons_zero, List.set_cons_succ, i64_w, i32_w]
            rfl
          refine one_ (i := 6) (N := some 18) #[true, true, true, true, true, true, true, false, false, false] rfl rfl (one_of HT_.out (by kernel_rfl)) (by decide) (fun K hK => ?_)
          refine goes_ Try.func58 (by kernel_rfl) rfl #[.string (a0.extract 0 ((ji3) : Int).toNat)] (by rfl) rfl rfl (by (try simp only [List.map_toArray, List.map_cons, List.map_nil]); first | done | (simp only [hji3]; rfl) | rfl | (simp only [List.length_drop, List.length_take]; rfl)) ?_
          with_reducible refine (check_Of.calls (a0.extract 0 ((ji3) : Int).toNat) t291 _ A8.out).mono ?_
          rintro e w17 ⟨rfl, hb⟩
          refine ⟨_, rfl, ?_⟩
          have n0_ := Aside0.mk (below_step (by repeat (first | (with_reducible first | exact HB.out | apply below_alloc | apply pw_below_drewN | apply below_drew1) | exact HB.out)) hb)
          clear HB
          have HB := n0_
          clear n0_
          (try clear hb)
          (try clear hb2)
          (try clear hk)
          (try clear hi)
          refine hK.out _ _ trivial (fun hHeld => ?_)
          clear hK K
          refine norm_ (a' := ?_) ?_ ?_
          rotate_left
          · show Act.put _ (some 18) _ = _
            simp only [Act.put, List.setIfInBounds_toArray, List.set_cons_zero, List.set_cons_succ, i64_w, i32_w]
            rfl
          refine one_ (i := 7) (N := some 19) #[true, true, true, true, true, true, true, true, false, false] rfl rfl (one_of HT_.out (by kernel_rfl)) (by decide) (fun K hK => ?_)
          refine goes_ Try.func57 (by kernel_rfl) rfl #[.int .u32 t291] (by rfl) rfl rfl (by (try simp only [List.map_toArray, List.map_cons, List.map_nil]); first | done | rfl | (simp only [List.length_drop, List.length_take]; rfl)) ?_
          with_reducible refine (check_bytes.calls t291 t292 _ A9.out).mono ?_
          rintro e w18 ⟨rfl, hb⟩
          refine ⟨_, rfl, ?_⟩
          have n0_ := Aside0.mk (below_step (by repeat (first | (with_reducible first | exact HB.out | apply below_alloc | apply pw_below_drewN | apply below_drew1) | exact HB.out)) hb)
          clear HB
          have HB := n0_
          clear n0_
          (try clear hb)
          (try clear hb2)
          (try clear hk)
          (try clear hi)
          refine hK.out _ _ trivial (fun hHeld => ?_)
          clear hK K
          refine norm_ (a' := ?_) ?_ ?_
          rotate_left
          · show Act.put _ (some 19) _ = _
            simp only [Act.put, List.setIfInBounds_toArray, List.set_cons_zero, List.set_cons_succ, i64_w, i32_w]
            rfl
          refine pure_ (i := 8) (N := some 20) (v := ?_) (a' := ?_) #[true, true, true, true, true, true, true, true, true, false] rfl rfl (any_of HT_.out (by kernel_rfl)) (fun _ _ _ h => h) (Or.inl ⟨by rfl, ?_⟩) ?_ ?_
          rotate_left
          · intro w'
            go_simp
            with_reducible rfl
          rotate_left
          · simp only [Act.put, List.setIfInBounds_toArray, List.set_cons_zero, List.set_cons_succ, i64_w, i32_w]
            rfl
          refine pure_ (i := 9) (N := some 11) (v := ?_) (a' := ?_) #[true, true, true, true, true, true, true, true, true, true] rfl rfl (any_of HT_.out (by kernel_rfl)) (fun _ _ _ h => h) (Or.inl ⟨by rfl, ?_⟩) ?_ ?_
          rotate_left
          · intro w'
            go_simp
            with_reducible rfl
          rotate_left
          · simp only [Act.put, List.setIfInBounds_toArray, List.set_cons_zero, List.set_cons_succ, i64_w, i32_w]
            rfl
          refine done_ (done_of HT_.out (by kernel_rfl)) ?_
          try go_wp2
          go_ret2
          exact ⟨by first | rfl | (simp [errW_none, errW_some] <;> rfl) | (simp only [← hji3]; first | rfl | (simp [errW_none, errW_some] <;> rfl)) | (simp [*, errW_none, errW_some] <;> rfl), by repeat (first | (with_reducible first | exact HB.out | apply below_alloc | apply pw_below_drewN | apply below_drew1) | exact HB.out)⟩
      · rw [if_neg c5] at H
        exact absurd H (by simp)
    · rw [if_neg c4] at H
      exact absurd H (by simp)
def stringslite_HasPrefix.f (a0 : ByteArray) (a1 : ByteArray) : Option (Bool) := if (a0.size : Int) ≥ (a1.size : Int) then (if 0 ≤ (a1.size : Int) then (if (a1.size : Int) ≤ (a0.size : Int) then (some ((a0.extract 0 a1.size).toList == a1.toList)) else (none)) else (none)) else (some false)
set_option maxHeartbeats 8000000 in
set_option maxRecDepth 100000 in
theorem stringslite_HasPrefix.calls (a0 : ByteArray) (a1 : ByteArray) (r : Bool) (w : World) (h : stringslite_HasPrefix.f a0 a1 = some r) :
    Calls Try.prog 84 #[.string a0, .string a1] w fun e w' => e = .returned (.bool r) ∧ Drawn0 w w' := by
  have H : (if (a0.size : Int) ≥ (a1.size : Int) then (if 0 ≤ (a1.size : Int) then (if (a1.size : Int) ≤ (a0.size : Int) then (some ((a0.extract 0 a1.size).toList == a1.toList)) else (none)) else (none)) else (some false)) = some r := h
  clear h
  by_cases c3 : (a0.size : Int) ≥ (a1.size : Int)
  · rw [if_pos c3] at H
    have c3b0 : decide ((a1.size : Int) ≤ (a0.size : Int)) = true := decide_eq_true c3
    have c3b1 : decide (a1.size ≤ a0.size) = true := decide_eq_true (Int.ofNat_le.mp c3)
    clear c3
    by_cases c4 : 0 ≤ (a1.size : Int)
    · rw [if_pos c4] at H
      have c4b0 := eq_true c4
      have c4b1 : decide (0 ≤ (a1.size : Int)) = true := decide_eq_true c4
      clear c4
      by_cases c5 : (a1.size : Int) ≤ (a0.size : Int)
      · rw [if_pos c5] at H
        have c5b0 := eq_true c5
        have c5b1 : decide ((a1.size : Int) ≤ (a0.size : Int)) = true := decide_eq_true c5
        clear c5
        obtain rfl := Option.some.inj H
        go_enter Try.func84, Try.ntmps84
        go_wp2
        go_ret
        exact ⟨by first | rfl | (simp; done) | (simp [*]; done), by repeat (first | exact Drawn0.refl _ | apply Drawn0.step)⟩
      · rw [if_neg c5] at H
        exact absurd H (by simp)
    · rw [if_neg c4] at H
      exact absurd H (by simp)
  · rw [if_neg c3] at H
    have c3b0 : decide ((a1.size : Int) ≤ (a0.size : Int)) = false := decide_eq_false c3
    have c3b1 : decide (a1.size ≤ a0.size) = false := decide_eq_false (fun h => c3 (Int.ofNat_le.mpr h))
    clear c3
    obtain rfl := Option.some.inj H
    go_enter Try.func84, Try.ntmps84
    go_wp2
    go_ret
    exact ⟨by first | rfl | (simp; done) | (simp [*]; done), by repeat (first | exact Drawn0.refl _ | apply Drawn0.step)⟩
def stringslite_CutPrefix.f (a0 : ByteArray) (a1 : ByteArray) : Option (ByteArray × Bool) := (stringslite_HasPrefix.f a0 a1).bind fun t293 => (if t293 = true then (if 0 ≤ (a1.size : Int) then (if (a1.size : Int) ≤ (a0.size : Int) then (some (a0.extract a1.size a0.size, true)) else (none)) else (none)) else (some (a0, false)))
set_option maxHeartbeats 8000000 in
set_option maxRecDepth 100000 in
theorem stringslite_CutPrefix.calls (a0 : ByteArray) (a1 : ByteArray) (r1 : ByteArray) (r2 : Bool) (w : World) (h : stringslite_CutPrefix.f a0 a1 = some (r1, r2)) :
    Calls Try.prog 78 #[.string a0, .string a1] w fun e w' => e = .returned (.tuple #[.string r1, .bool r2]) ∧ Drawn0 w w' := by
  have H : ((stringslite_HasPrefix.f a0 a1).bind fun t293 => (if t293 = true then (if 0 ≤ (a1.size : Int) then (if (a1.size : Int) ≤ (a0.size : Int) then (some (a0.extract a1.size a0.size, true)) else (none)) else (none)) else (some (a0, false)))) = some (r1, r2) := h
  clear h
  replace H := Option.bind_eq_some_iff.mp H
  obtain ⟨t293, A30, H⟩ := H
  replace H : (if t293 = true then (if 0 ≤ (a1.size : Int) then (if (a1.size : Int) ≤ (a0.size : Int) then (some (a0.extract a1.size a0.size, true)) else (none)) else (none)) else (some (a0, false))) = some (r1, r2) := H
  have A3 := Aside0.mk A30
  clear A30
  by_cases c4 : t293 = true
  · subst c4
    have H1 : (if 0 ≤ (a1.size : Int) then (if (a1.size : Int) ≤ (a0.size : Int) then (some (a0.extract a1.size a0.size, true)) else (none)) else (none)) = some (r1, r2) := by rw [if_pos rfl] at H; exact H
    clear H
    have H := H1
    clear H1
    by_cases c5 : 0 ≤ (a1.size : Int)
    · rw [if_pos c5] at H
      have c5b0 := eq_true c5
      have c5b1 : decide (0 ≤ (a1.size : Int)) = true := decide_eq_true c5
      clear c5
      by_cases c6 : (a1.size : Int) ≤ (a0.size : Int)
      · rw [if_pos c6] at H
        have c6b0 := eq_true c6
        have c6b1 : decide ((a1.size : Int) ≤ (a0.size : Int)) = true := decide_eq_true c6
        clear c6
        simp only [Option.some.injEq, Prod.mk.injEq] at H
        obtain ⟨rfl, rfl⟩ := H
        go_enter Try.func78, Try.ntmps78
        go_wp2_with (first | ((with_reducible refine gate_callee (f := 84) rfl ?_); refine goesL_ (some 8) rfl rfl Try.func84 (by kernel_rfl) rfl #[.string a0, .string a1] rfl (by (try simp only [List.map_toArray, List.map_cons, List.map_nil]); first | done | rfl | (simp only [List.length_drop, List.length_take]; rfl)) ?_; (with_reducible refine (stringslite_HasPrefix.calls a0 a1 true _ A3.out).mono ?_); rintro e w' ⟨rfl, ⟨nd, rfl⟩⟩; refine ⟨_, rfl, ?_⟩))
        go_ret2
        exact ⟨by first | rfl | (simp; done) | (simp [*]; done), by repeat (first | exact Drawn0.refl _ | apply Drawn0.step)⟩
      · rw [if_neg c6] at H
        exact absurd H (by simp)
    · rw [if_neg c5] at H
      exact absurd H (by simp)
  · replace c4 := Bool.eq_false_iff.mpr c4
    subst c4
    have H1 : (some (a0, false)) = some (r1, r2) := by rw [if_neg (show ¬ (false = true) by decide)] at H; exact H
    clear H
    have H := H1
    clear H1
    simp only [Option.some.injEq, Prod.mk.injEq] at H
    obtain ⟨rfl, rfl⟩ := H
    go_enter Try.func78, Try.ntmps78
    go_wp2_with (first | ((with_reducible refine gate_callee (f := 84) rfl ?_); refine goesL_ (some 8) rfl rfl Try.func84 (by kernel_rfl) rfl #[.string a0, .string a1] rfl (by (try simp only [List.map_toArray, List.map_cons, List.map_nil]); first | done | rfl | (simp only [List.length_drop, List.length_take]; rfl)) ?_; (with_reducible refine (stringslite_HasPrefix.calls a0 a1 false _ A3.out).mono ?_); rintro e w' ⟨rfl, ⟨nd, rfl⟩⟩; refine ⟨_, rfl, ?_⟩))
    go_ret2
    exact ⟨by first | rfl | (simp; done) | (simp [*]; done), by repeat (first | exact Drawn0.refl _ | apply Drawn0.step)⟩
def strings_CutPrefix.f (a0 : ByteArray) (a1 : ByteArray) : Option (ByteArray × Bool) := (stringslite_CutPrefix.f a0 a1).bind fun bt294 => (some (bt294.1, bt294.2))
set_option maxHeartbeats 8000000 in
set_option maxRecDepth 100000 in
theorem strings_CutPrefix.calls (a0 : ByteArray) (a1 : ByteArray) (r1 : ByteArray) (r2 : Bool) (w : World) (h : strings_CutPrefix.f a0 a1 = some (r1, r2)) :
    Calls Try.prog 60 #[.string a0, .string a1] w fun e w' => e = .returned (.tuple #[.string r1, .bool r2]) ∧ Drawn0 w w' := by
  have H : ((stringslite_CutPrefix.f a0 a1).bind fun bt294 => (some (bt294.1, bt294.2))) = some (r1, r2) := h
  clear h
  replace H := Option.bind_eq_some_iff.mp H
  obtain ⟨⟨t294, t295⟩, A30, H⟩ := H
  replace H : (some (t294, t295)) = some (r1, r2) := H
  have A3 := Aside0.mk A30
  clear A30
  simp only [Option.some.injEq, Prod.mk.injEq] at H
  obtain ⟨rfl, rfl⟩ := H
  go_enter Try.func60, Try.ntmps60
  go_wp2_with (first | ((with_reducible refine gate_callee (f := 78) rfl ?_); refine goesL_ (some 8) rfl rfl Try.func78 (by kernel_rfl) rfl #[.string a0, .string a1] rfl (by (try simp only [List.map_toArray, List.map_cons, List.map_nil]); first | done | rfl | (simp only [List.length_drop, List.length_take]; rfl)) ?_; (with_reducible refine (stringslite_CutPrefix.calls a0 a1 t294 t295 _ A3.out).mono ?_); rintro e w' ⟨rfl, ⟨nd, rfl⟩⟩; refine ⟨_, rfl, ?_⟩))
  go_ret2
  exact ⟨by first | rfl | (simp; done) | (simp [*]; done), by repeat (first | exact Drawn0.refl _ | apply Drawn0.step)⟩
end Go.Proofs.Ytmfcbfgijimliaa.Q
end
section
namespace Go.Proofs.Ytmfcbfgijimliaa.Q
open Go.RowKit Go.Proofs.YtmfcbfgijimliaaW.PrintWords Go.Proofs.YtmfcbfgijimliaaW.PrintLast Go.Proofs.YtmfcbfgijimliaaW.PrintMore
attribute [local go_sem] max2_int min2_int max_two min_two max_three min_three max_four min_four   -- for this text's walks alone
set_option linter.unusedVariables false
set_option linter.unusedSimpArgs false
def IsS127 (w0 W : World) (g : Nat) (f0 : ByteArray) (f1 : Int) : Prop := W.heap[g]? = some (.cells #[.string f0, .int .i64 f1] 127 (0, 0)) ∧ w0.heap.size ≤ g
theorem IsS127.grown {w0 W : World} {g : Nat} {f0 : ByteArray} {f1 : Int} {W1 : World} {row : Option Nat} (h : IsS127 w0 W g f0 f1) (hw : W.grownBy W1 row) (hne : some g ≠ row) : IsS127 w0 W1 g f0 f1 := by
  obtain ⟨hb, hg⟩ := h
  exact ⟨blk_grown hb hw hne, hg⟩
theorem IsS127.fresh {w0 W : World} {g : Nat} {f0 : ByteArray} {f1 : Int} (h : IsS127 w0 W g f0 f1) : ∀ k, W.heap.size ≤ k → k ≠ g := by
  obtain ⟨hb, hg⟩ := h
  exact Kd.freshB hb
theorem IsS127.kept {w0 W : World} {g : Nat} {f0 : ByteArray} {f1 : Int} {W1 : World} {S : Nat → Prop} (h : IsS127 w0 W g f0 f1) (hk : Kept W W1 S) (hne : ¬ S g) : IsS127 w0 W1 g f0 f1 := by
  obtain ⟨hb, hg⟩ := h
  exact ⟨blk_kept hb hk hne, hg⟩
theorem IsS127.below {w0 W : World} {g : Nat} {f0 : ByteArray} {f1 : Int} {W1 : World} (h : IsS127 w0 W g f0 f1) (hw : Below W.heap.size W W1) : IsS127 w0 W1 g f0 f1 := h.grown (grown_of_below hw none) (by simp)
theorem IsS127.alloc {w0 W : World} {g : Nat} {f0 : ByteArray} {f1 : Int} (h : IsS127 w0 W g f0 f1) (o : Obj) : IsS127 w0 (W.alloc o) g f0 f1 := h.below (below_alloc (Below.refl _ _) o)
theorem IsS127.drewN {w0 W : World} {g : Nat} {f0 : ByteArray} {f1 : Int} (h : IsS127 w0 W g f0 f1) (m : Nat) : IsS127 w0 (W.drewN m) g f0 f1 := h
theorem IsS127.drew {w0 W : World} {g : Nat} {f0 : ByteArray} {f1 : Int} (h : IsS127 w0 W g f0 f1) : IsS127 w0 W.drew g f0 f1 := h
theorem IsS127.at_ {w0 W : World} {g : Nat} {f0 : ByteArray} {f1 : Int} {w' : World} {m : Nat} (hq : W.drewN m = w') (h : IsS127 w0 W g f0 f1) : IsS127 w0 w' g f0 f1 := by subst hq; exact IsS127.drewN h m
theorem IsS127.apart {w0 W : World} {g : Nat} {f0 : ByteArray} {f1 : Int} {α : Type} {d : Kd α} {e : Nat} {base : Nat} {ok : Nat → Prop} {v : Value} {xs : List α} (h : IsS127 w0 W g f0 f1) (ho : d.R e W base ok v xs) (ht : ∀ q, q ∈ e :: d.E → q ≠ 127) : d.R e W base (fun k => ok k ∧ k ≠ g) v xs := by
  obtain ⟨hb, hg⟩ := h
  exact Kd.R_types ho hb ht
theorem IsS127.own_ne {w0 W : World} {g : Nat} {f0 : ByteArray} {f1 : Int} {α : Type} {d : Kd α} {e : Nat} {base : Nat} {ok : Nat → Prop} {v : Value} {xs : List α} (h : IsS127 w0 W g f0 f1) (ho : d.R e W base ok v xs) (ht : e ≠ 127) : some g ≠ v.ownBlock := by
  obtain ⟨hb, hg⟩ := h
  exact Kd.R_ne ho hb ht
theorem IsS127.lt {w0 W : World} {g : Nat} {f0 : ByteArray} {f1 : Int} (h : IsS127 w0 W g f0 f1) : g < W.heap.size := by
  obtain ⟨hb, hg⟩ := h
  exact blk_lt hb
theorem IsS127.ge {w0 W : World} {g : Nat} {f0 : ByteArray} {f1 : Int} (h : IsS127 w0 W g f0 f1) : w0.heap.size ≤ g := by
  obtain ⟨hb, hg⟩ := h
  exact hg
theorem IsS127.far {w0 W : World} {g : Nat} {f0 : ByteArray} {f1 : Int} {p : Addr} (h : IsS127 w0 W g f0 f1) (hne : g ≠ p.block) (u : Value) : IsS127 w0 (W.setCell p u) g f0 f1 := by
  obtain ⟨hb, hg⟩ := h
  exact ⟨blk_far hb hne u, hg⟩
theorem cellS127_0 {W : World} {g : Nat} {f0 : ByteArray} {f1 : Int} (h : W.heap[g]? = some (.cells #[.string f0, .int .i64 f1] 127 (0, 0))) : W.cell? ⟨g, 0, none⟩ = some (.string f0) := (blk_cell h 0).trans rfl
theorem IsS127.set_0 {w0 W : World} {g : Nat} {f0 : ByteArray} {f1 : Int} (h : IsS127 w0 W g f0 f1) (x : ByteArray) : IsS127 w0 (W.setCell ⟨g, 0, none⟩ (.string x)) g x f1 := by
  obtain ⟨hb, hg⟩ := h
  exact ⟨by simpa using blk_set hb 0 (.string x), hg⟩
theorem cellS127_1 {W : World} {g : Nat} {f0 : ByteArray} {f1 : Int} (h : W.heap[g]? = some (.cells #[.string f0, .int .i64 f1] 127 (0, 0))) : W.cell? ⟨g, 1, none⟩ = some (.int .i64 f1) := (blk_cell h 1).trans rfl
theorem IsS127.set_1 {w0 W : World} {g : Nat} {f0 : ByteArray} {f1 : Int} (h : IsS127 w0 W g f0 f1) (x : Int) : IsS127 w0 (W.setCell ⟨g, 1, none⟩ (.int .i64 x)) g f0 x := by
  obtain ⟨hb, hg⟩ := h
  exact ⟨by simpa using blk_set hb 1 (.int .i64 x), hg⟩
theorem IsS127.new (w0 W : World) (f0 : ByteArray) (f1 : Int) (hB : Below w0.heap.size w0 W) : IsS127 w0 (W.alloc (.cells #[.string f0, .int .i64 f1] 127)) W.heap.size f0 f1 := ⟨by simpa using heap_alloc_new W _, hB.size⟩
def pack_Read.f (a0 : ByteArray) : Option (ByteArray × Int) := some (a0, 0)
set_option maxHeartbeats 8000000 in
set_option maxRecDepth 100000 in
theorem pack_Read.calls (a0 : ByteArray) (r1 : ByteArray) (r2 : Int) (w0 w : World) (hB : Below w0.heap.size w0 w) (h : pack_Read.f a0 = some (r1, r2)) :
    Calls Try.prog 61 #[.string a0] w fun e w' => ∃ g_ : Nat, e = .returned (.pointer (some ⟨g_, 0, none⟩)) ∧ IsS127 w0 w' g_ r1 r2 ∧ Below w0.heap.size w0 w' ∧ Below w.heap.size w w' := by
  have hu127 := Try.underlying127
  have HBW := Aside0.mk (Below.refl w.heap.size w)
  have HW0 := Aside0.mk hB.size
  have HB := Aside0.mk hB
  clear hB
  have H : (some (a0, 0)) = some (r1, r2) := h
  clear h
  simp only [Option.some.injEq, Prod.mk.injEq] at H
  obtain ⟨rfl, rfl⟩ := H
  go_enter Try.func61, Try.ntmps61
  go_wp2_with (first | ((with_reducible refine gate_dst (N := 5) rfl ?_); refine box_event ?hg (N := 5) ?hd (cs := #[.string a0, .int .i64 0]) (t := 127) ?hr ?_; (case hd => rfl); (case hg => rfl); (case hr => first | (go_simp; done) | (go_simp; rfl)); intro gb296 hg w2 hbox hb; have n0_ := Aside0.mk (below_step HBW.out hb); have n1_ := Aside0.mk (below_step (by repeat (first | (with_reducible first | exact HB.out | apply below_alloc | apply pw_below_drewN | apply below_drew1) | exact HB.out)) hb); have n2_ := Aside0.mk (hbox); have n3_ := Aside0.mk ((by rw [hg]; exact (below_size (by repeat (first | (with_reducible first | exact HBW.out | apply below_alloc | apply pw_below_drewN | apply below_drew1) | exact HBW.out))) : w.heap.size ≤ gb296)); have n4_ := Aside0.mk ((Nat.le_trans HW0.out (by rw [hg]; exact (below_size (by repeat (first | (with_reducible first | exact HBW.out | apply below_alloc | apply pw_below_drewN | apply below_drew1) | exact HBW.out))) : w.heap.size ≤ gb296) : w0.heap.size ≤ gb296)); clear HBW; clear HB; have HBW := n0_; have HB := n1_; have BK296 := n2_; have GW296 := n3_; have GE296 := n4_; clear n0_ n1_ n2_ n3_ n4_; clear hb hbox hg))
  go_ret
  exact ⟨_, rfl, (show IsS127 w0 _ gb296 a0 0 from ⟨by (with_reducible repeat (first | refine blk_drewN ?_ _ | refine blk_drew ?_ | refine blk_alloc ?_ _)); exact BK296.out, GE296.out⟩), by repeat (first | (with_reducible first | exact HB.out | apply below_alloc | apply pw_below_drewN | apply below_drew1 | refine below_set ?_ GE296.out) | exact HB.out), by repeat (first | (with_reducible first | exact HBW.out | apply below_alloc | apply pw_below_drewN | apply below_drew1 | refine below_set ?_ GW296.out) | exact HBW.out)⟩
def pack_Reader_works.f (s0_0 : ByteArray) (s0_1 : Int) : Option (Bool × ByteArray × Int) := some ((s0_1 == 0), s0_0, s0_1)
set_option maxHeartbeats 8000000 in
set_option maxRecDepth 100000 in
theorem pack_Reader_works.calls (g : Nat) (s0_0 : ByteArray) (s0_1 : Int) (r1 : Bool) (r2 : ByteArray) (r3 : Int) (w0 w : World) (hI : IsS127 w0 w g s0_0 s0_1) (hB : Below w0.heap.size w0 w) (h : pack_Reader_works.f s0_0 s0_1 = some (r1, r2, r3)) :
    Calls Try.prog 79 #[.pointer (some ⟨g, 0, none⟩)] w fun e w' => e = .returned (.bool r1) ∧ IsS127 w0 w' g r2 r3 ∧ Below w0.heap.size w0 w' ∧ KeepBut w w' g none := by
  have HI0 := Aside0.mk hI
  have HK := Aside0.mk (KeepBut.refl w g none)
  have HL := Aside0.mk hB.size
  clear hI
  have HW0 := Aside0.mk hB.size
  have HB := Aside0.mk hB
  clear hB
  have H : (some ((s0_1 == 0), s0_0, s0_1)) = some (r1, r2, r3) := h
  clear h
  simp only [Option.some.injEq, Prod.mk.injEq] at H
  obtain ⟨rfl, rfl, rfl⟩ := H
  obtain ⟨HGz2, hgz2⟩ := HI0.out
  have hcz2_0 := cellS127_0 HGz2
  have hcz2_1 := cellS127_1 HGz2
  have hfz2_0 := blk_frozen HGz2 0
  have hfz2_1 := blk_frozen HGz2 1
  clear HGz2 hgz2
  go_enter Try.func79, Try.ntmps79
  go_wp2
  go_ret
  exact ⟨by first | rfl | (simp [errW_none, errW_some] <;> rfl) | (simp [*, errW_none, errW_some] <;> rfl), by repeat (first | (with_reducible first | exact HI0.out | apply IsS127.alloc | apply IsS127.drewN | apply IsS127.drew | apply IsS127.set_0 | apply IsS127.set_1) | exact HI0.out), by repeat (first | (with_reducible first | exact HB.out | apply below_alloc | apply pw_below_drewN | apply below_drew1 | refine below_set ?_ (IsS127.ge HI0.out)) | exact HB.out), by repeat (first | (with_reducible first | exact HK.out | apply KeepBut.set_ | apply keep_drewN | apply keep_drew | apply keep_alloc) | exact HK.out)⟩
def pack_Reader_wrong.f (s0_0 : ByteArray) (s0_1 : Int) (a1 : Int) : Option (ByteArray × Int) := some ((⟨#[]⟩ : ByteArray), a1)
set_option maxHeartbeats 8000000 in
set_option maxRecDepth 100000 in
theorem pack_Reader_wrong.calls (g : Nat) (s0_0 : ByteArray) (s0_1 : Int) (a1 : Int) (r1 : ByteArray) (r2 : Int) (w0 w : World) (hI : IsS127 w0 w g s0_0 s0_1) (hB : Below w0.heap.size w0 w) (h : pack_Reader_wrong.f s0_0 s0_1 a1 = some (r1, r2)) :
    Calls Try.prog 80 #[.pointer (some ⟨g, 0, none⟩), .int .i64 a1] w fun e w' => e = .returned (.tuple #[]) ∧ IsS127 w0 w' g r1 r2 ∧ Below w0.heap.size w0 w' ∧ KeepBut w w' g none := by
  have HI0 := Aside0.mk hI
  have HK := Aside0.mk (KeepBut.refl w g none)
  have HL := Aside0.mk hB.size
  clear hI
  have HW0 := Aside0.mk hB.size
  have HB := Aside0.mk hB
  clear hB
  have H : (some ((⟨#[]⟩ : ByteArray), a1)) = some (r1, r2) := h
  clear h
  simp only [Option.some.injEq, Prod.mk.injEq] at H
  obtain ⟨rfl, rfl⟩ := H
  obtain ⟨HGz3, hgz3⟩ := HI0.out
  have hcz3_0 := cellS127_0 HGz3
  have hcz3_1 := cellS127_1 HGz3
  have hfz3_0 := blk_frozen HGz3 0
  have hfz3_1 := blk_frozen HGz3 1
  clear HGz3 hgz3
  go_enter Try.func80, Try.ntmps80
  go_wp2
  first | go_end0 | ((try simp only [Exit.inBlock, Exit.then]); refine bodyPost_ret (results_none rfl _ _ _) rfl ?_)
  exact ⟨by first | rfl | (simp [errW_none, errW_some] <;> rfl) | (simp [*, errW_none, errW_some] <;> rfl), by repeat (first | (with_reducible first | exact HI0.out | apply IsS127.alloc | apply IsS127.drewN | apply IsS127.drew | apply IsS127.set_0 | apply IsS127.set_1) | exact HI0.out), by repeat (first | (with_reducible first | exact HB.out | apply below_alloc | apply pw_below_drewN | apply below_drew1 | refine below_set ?_ (IsS127.ge HI0.out)) | exact HB.out), by repeat (first | (with_reducible first | exact HK.out | apply KeepBut.set_ | apply keep_drewN | apply keep_drew | apply keep_alloc) | exact HK.out)⟩
def pack_Reader_Number.l0 : Nat → Int → Int → Int → ByteArray → Int → Option (Int × ByteArray × Int)
  | 0, _, _, _, _, _ => none
  | k + 1, x3, x13, x14, x1000, x1001 => if x14 < x13 then (if 0 ≤ x14 then (if x14 < (x1000.size : Int) then (if (bt x1000 x14) ≥ 128 then (if x14 = 7 then ((pack_Reader_wrong.f x1000 x1001 4).bind fun bt302 => (some (0, bt302.1, bt302.2))) else (if 0 ≤ (wrap64 (7 * x14)) then (pack_Reader_Number.l0 k (Go.bits .or .i64 x3 (shl .i64 (((bt x1000 x14) - 128) % 256) (wrap64 (7 * x14)))) x13 (wrap64 (x14 + 1)) x1000 x1001) else (none))) else (if (bt x1000 x14) = 0 then (if x14 > 0 then ((pack_Reader_wrong.f x1000 x1001 4).bind fun bt304 => (some (0, bt304.1, bt304.2))) else (if 0 ≤ (wrap64 (x14 + 1)) then (if (wrap64 (x14 + 1)) ≤ (x1000.size : Int) then (if 0 ≤ (wrap64 (7 * x14)) then (some (Go.bits .or .i64 x3 (shl .i64 (wrap64 (bt x1000 x14)) (wrap64 (7 * x14))), x1000.extract ((wrap64 (x14 + 1)) : Int).toNat x1000.size, x1001)) else (none)) else (none)) else (none))) else (if 0 ≤ (wrap64 (x14 + 1)) then (if (wrap64 (x14 + 1)) ≤ (x1000.size : Int) then (if 0 ≤ (wrap64 (7 * x14)) then (some (Go.bits .or .i64 x3 (shl .i64 (wrap64 (bt x1000 x14)) (wrap64 (7 * x14))), x1000.extract ((wrap64 (x14 + 1)) : Int).toNat x1000.size, x1001)) else (none)) else (none)) else (none)))) else (none)) else (none)) else ((pack_Reader_wrong.f x1000 x1001 3).bind fun bt300 => (some (0, bt300.1, bt300.2)))
def pack_Reader_Number.f (k : Nat) (s0_0 : ByteArray) (s0_1 : Int) : Option (Int × ByteArray × Int) := (pack_Reader_works.f s0_0 s0_1).bind fun bt297 => (if bt297.1 = true then (pack_Reader_Number.l0 k 0 (bt297.2.1.size : Int) 0 bt297.2.1 bt297.2.2) else (some (0, bt297.2.1, bt297.2.2)))
set_option maxHeartbeats 8000000 in
set_option maxRecDepth 100000 in
theorem pack_Reader_Number.calls (k : Nat) (g : Nat) (s0_0 : ByteArray) (s0_1 : Int) (r1 : Int) (r2 : ByteArray) (r3 : Int) (w0 w : World) (hI : IsS127 w0 w g s0_0 s0_1) (hB : Below w0.heap.size w0 w) (h : pack_Reader_Number.f k s0_0 s0_1 = some (r1, r2, r3)) :
    Calls Try.prog 62 #[.pointer (some ⟨g, 0, none⟩)] w fun e w' => e = .returned (.int .i64 r1) ∧ IsS127 w0 w' g r2 r3 ∧ Below w0.heap.size w0 w' ∧ KeepBut w w' g none := by
  have HI0 := Aside0.mk hI
  have HK := Aside0.mk (KeepBut.refl w g none)
  have HL := Aside0.mk hB.size
  clear hI
  have HW0 := Aside0.mk hB.size
  have HB := Aside0.mk hB
  clear hB
  have H : ((pack_Reader_works.f s0_0 s0_1).bind fun bt297 => (if bt297.1 = true then (pack_Reader_Number.l0 k 0 (bt297.2.1.size : Int) 0 bt297.2.1 bt297.2.2) else (some (0, bt297.2.1, bt297.2.2)))) = some (r1, r2, r3) := h
  clear h
  replace H := Option.bind_eq_some_iff.mp H
  obtain ⟨⟨t297, t298, t299⟩, A20, H⟩ := H
  replace H : (if t297 = true then (pack_Reader_Number.l0 k 0 (t298.size : Int) 0 t298 t299) else (some (0, t298, t299))) = some (r1, r2, r3) := H
  have A2 := Aside0.mk A20
  clear A20
  by_cases c3 : t297 = true
  · subst c3
    have H1 : (pack_Reader_Number.l0 k 0 (t298.size : Int) 0 t298 t299) = some (r1, r2, r3) := by rw [if_pos rfl] at H; exact H
    clear H
    have H := H1
    clear H1
    have H' := Aside0.mk H
    clear H
    go_enter Try.func62, Try.ntmps62
    go_wp2_with (first | ((with_reducible refine gate_callee (f := 79) rfl ?_); refine goesL_ (some 7) rfl rfl Try.func79 (by kernel_rfl) rfl #[.pointer (some ⟨g, 0, none⟩)] rfl (by (try simp only [List.map_toArray, List.map_cons, List.map_nil]); first | done | rfl | (simp only [List.length_drop, List.length_take]; rfl)) ?_; (with_reducible refine (pack_Reader_works.calls g s0_0 s0_1 true t298 t299 w0 _ ?side1 ?side2 A2.out).mono ?_); (case side1 => repeat (first | (with_reducible first | exact HI0.out | apply IsS127.alloc | apply IsS127.drewN | apply IsS127.drew | apply IsS127.set_0 | apply IsS127.set_1) | exact HI0.out)); (case side2 => repeat (first | (with_reducible first | exact HB.out | apply below_alloc | apply pw_below_drewN | apply below_drew1 | refine below_set ?_ (IsS127.ge HI0.out)) | exact HB.out)); rintro e w4 ⟨rfl, hi, hb, hk⟩; refine ⟨_, rfl, ?_⟩; have n0_ := Aside0.mk (KeepBut.trans (by repeat (first | (with_reducible first | exact HK.out | apply KeepBut.set_ | apply keep_drewN | apply keep_drew | apply keep_alloc) | exact HK.out)) hk (.inl rfl)); have n1_ := Aside0.mk (hb); have n2_ := Aside0.mk (hi); clear HK; clear HB; clear HI0; have HK := n0_; have HB := n1_; have HI0 := n2_; clear n0_ n1_ n2_; (try clear hb); (try clear hb2); (try clear hk); (try clear hi); obtain ⟨HGz5, hgz5⟩ := HI0.out; have hcz5_0 := cellS127_0 HGz5; have hcz5_1 := cellS127_1 HGz5; have hfz5_0 := blk_frozen HGz5 0; have hfz5_1 := blk_frozen HGz5 1; clear HGz5 hgz5))
    go_loopg [3, 14] k (fun kq v3 v14 w' => ∃ (x3_1 : Int) (x14_1 : Int) (x1000_1 : ByteArray) (x1001_1 : Int), v3 = .int .i64 x3_1 ∧ v14 = .int .i64 x14_1 ∧ Aside0 (pack_Reader_Number.l0 kq x3_1 (t298.size : Int) x14_1 x1000_1 x1001_1 = some (r1, r2, r3)) ∧ Aside0 (kq ≤ k) ∧ Aside0 (IsS127 w0 w' g x1000_1 x1001_1) ∧ Aside0 (KeepBut w w' g none) ∧ Aside0 (Below w0.heap.size w0 w'))
    case atStart => exact ⟨(0), (0), (t298), (t299), (by first | rfl | (simp; done) | (simp [*]; done)), (by first | rfl | (simp; done) | (simp [*]; done)), H', ⟨Nat.le_refl _⟩, ⟨by repeat (first | (with_reducible first | exact HI0.out | apply IsS127.alloc | apply IsS127.drewN | apply IsS127.drew | apply IsS127.set_0 | apply IsS127.set_1) | exact HI0.out)⟩, ⟨by repeat (first | (with_reducible first | exact HK.out | apply KeepBut.set_ | apply keep_drewN | apply keep_drew | apply keep_alloc) | exact HK.out)⟩, ⟨by repeat (first | (with_reducible first | exact HB.out | apply below_alloc | apply pw_below_drewN | apply below_drew1 | refine below_set ?_ (IsS127.ge HI0.out)) | exact HB.out)⟩⟩
    case round =>
      clear H'
      try clear p2
      try clear c3
      try clear hcz5_0
      try clear hcz5_1
      try clear hfz5_0
      try clear hfz5_1
      obtain ⟨x3_1, x14_1, x1000_1, x1001_1, rfl, rfl, HA, HK1, HI0, HK, HB⟩ := hrel
      cases gk with
      | zero => exact absurd HA.out (by simp [pack_Reader_Number.l0])
      | succ k1 =>
        have H := HA.out
        clear HA
        simp only [pack_Reader_Number.l0] at H
        by_cases c6 : x14_1 < (t298.size : Int)
        · rw [if_pos c6] at H
          have c6b0 : decide (x14_1 < (t298.size : Int)) = true := decide_eq_true c6
          clear c6
          by_cases c7 : 0 ≤ x14_1
          · rw [if_pos c7] at H
            have c7b0 : decide (0 ≤ x14_1) = true := decide_eq_true c7
            clear c7
            by_cases c8 : x14_1 < (x1000_1.size : Int)
            · rw [if_pos c8] at H
              have c8b0 : decide (x14_1 < (x1000_1.size : Int)) = true := decide_eq_true c8
              clear c8
              by_cases c10 : (bt x1000_1 x14_1) ≥ 128
              · rw [if_pos c10] at H
                have c10b0 : decide (128 ≤ (bt x1000_1 x14_1)) = true := decide_eq_true c10
                clear c10
                by_cases c11 : x14_1 = 7
                · rw [if_pos c11] at H
                  have c11b0 : (x14_1 == 7) = true := beq_iff_eq.mpr c11
                  have c11b1 : (x14_1 != 7) = false := bne_eq_false_iff_eq.mpr c11
                  clear c11
                  replace H := Option.bind_eq_some_iff.mp H
                  obtain ⟨⟨t302, t303⟩, A120, H⟩ := H
                  replace H : (some (0, t302, t303)) = some (r1, r2, r3) := H
                  have A12 := Aside0.mk A120
                  clear A120
                  simp only [Option.some.injEq, Prod.mk.injEq] at H
                  obtain ⟨rfl, rfl, rfl⟩ := H
                  obtain ⟨HGz13, hgz13⟩ := HI0.out
                  have hcz13_0 := cellS127_0 HGz13
                  have hcz13_1 := cellS127_1 HGz13
                  have hfz13_0 := blk_frozen HGz13 0
                  have hfz13_1 := blk_frozen HGz13 1
                  clear HGz13 hgz13
                  have p9 : 0 ≤ (x14_1 : Int) := of_decide_eq_true (by first | (with_reducible assumption) | assumption)
                  have q9 : x14_1 < (x1000_1.size : Int) := of_decide_eq_true (by first | (with_reducible assumption) | assumption)
                  have hx9 := bt_at x1000_1 x14_1
                  replace p9 := eq_true p9
                  replace q9 := eq_true q9
                  go_wp2_with (first | ((with_reducible refine gate_callee (f := 80) rfl ?_); refine goesL_ (some 28) rfl rfl Try.func80 (by kernel_rfl) rfl #[.pointer (some ⟨g, 0, none⟩), .int .i64 4] rfl (by (try simp only [List.map_toArray, List.map_cons, List.map_nil]); first | done | rfl | (simp only [List.length_drop, List.length_take]; rfl)) ?_; (with_reducible refine (pack_Reader_wrong.calls g x1000_1 x1001_1 4 t302 t303 w0 _ ?side1 ?side2 A12.out).mono ?_); (case side1 => repeat (first | (with_reducible first | exact HI0.out | apply IsS127.alloc | apply IsS127.drewN | apply IsS127.drew | apply IsS127.set_0 | apply IsS127.set_1) | exact HI0.out)); (case side2 => repeat (first | (with_reducible first | exact HB.out | apply below_alloc | apply pw_below_drewN | apply below_drew1 | refine below_set ?_ (IsS127.ge HI0.out)) | exact HB.out)); rintro e w14 ⟨rfl, hi, hb, hk⟩; refine ⟨_, rfl, ?_⟩; have n0_ := Aside0.mk (KeepBut.trans (by repeat (first | (with_reducible first | exact HK.out | apply KeepBut.set_ | apply keep_drewN | apply keep_drew | apply keep_alloc) | exact HK.out)) hk (.inl rfl)); have n1_ := Aside0.mk (hb); have n2_ := Aside0.mk (hi); clear HK; clear HB; clear HI0; have HK := n0_; have HB := n1_; have HI0 := n2_; clear n0_ n1_ n2_; (try clear hb); (try clear hb2); (try clear hk); (try clear hi)))
                  go_ret
                  exact ⟨by first | rfl | (simp [errW_none, errW_some] <;> rfl) | (simp [*, errW_none, errW_some] <;> rfl), by repeat (first | (with_reducible first | exact HI0.out | apply IsS127.alloc | apply IsS127.drewN | apply IsS127.drew | apply IsS127.set_0 | apply IsS127.set_1) | exact HI0.out), by repeat (first | (with_reducible first | exact HB.out | apply below_alloc | apply pw_below_drewN | apply below_drew1 | refine below_set ?_ (IsS127.ge HI0.out)) | exact HB.out), by repeat (first | (with_reducible first | exact HK.out | apply KeepBut.set_ | apply keep_drewN | apply keep_drew | apply keep_alloc) | exact HK.out)⟩
                · rw [if_neg c11] at H
                  have c11b0 : (x14_1 == 7) = false := beq_eq_false_iff_ne.mpr c11
                  have c11b1 : (x14_1 != 7) = true := bne_iff_ne.mpr c11
                  obtain ⟨ji15, hji15⟩ : ∃ j_ : Int, (wrap64 (7 * x14_1)) = j_ := ⟨_, rfl⟩
                  replace H : (if 0 ≤ (ji15) then (pack_Reader_Number.l0 k1 (Go.bits .or .i64 x3_1 (shl .i64 (((bt x1000_1 x14_1) - 128) % 256) (ji15))) (t298.size : Int) (wrap64 (x14_1 + 1)) x1000_1 x1001_1) else (none)) = some (r1, r2, r3) := by first | (rw [hji15] at H; exact H) | (simp only [hji15] at H ⊢; exact H)
                  have hji15w : (IntKind.i64.wrap (7 * x14_1)) = ji15 := (i64_w _).trans hji15
                  by_cases c16 : 0 ≤ (ji15)
                  · rw [if_pos c16] at H
                    have c16b0 := eq_true c16
                    have c16b1 : decide (0 ≤ (ji15)) = true := decide_eq_true c16
                    clear c16
                    obtain ⟨ji17, hji17⟩ : ∃ j_ : Int, (shl .i64 (((bt x1000_1 x14_1) - 128) % 256) (ji15)) = j_ := ⟨_, rfl⟩
                    replace H : (pack_Reader_Number.l0 k1 (Go.bits .or .i64 x3_1 (ji17)) (t298.size : Int) (wrap64 (x14_1 + 1)) x1000_1 x1001_1) = some (r1, r2, r3) := by first | (rw [hji17] at H; exact H) | (simp only [hji17] at H ⊢; exact H)
                    have hji17_ : (IntKind.i64.wrap ((((bt x1000_1 x14_1) - 128) % 256) * 2 ^ min (ji15).toNat 64)) = ji17 := hji17
                    have hji17z : (ji15) ≤ 64 → (IntKind.i64.wrap ((((bt x1000_1 x14_1) - 128) % 256) * 2 ^ (ji15).toNat)) = ji17 := shl_small hji17
                    have hji17y : (wrap64 ((((bt x1000_1 x14_1) - 128) % 256) * 2 ^ min (ji15).toNat 64)) = ji17 := (i64_w _).symm.trans hji17_
                    have hji17x : (ji15) ≤ 64 → (wrap64 ((((bt x1000_1 x14_1) - 128) % 256) * 2 ^ (ji15).toNat)) = ji17 := fun h_ => (i64_w _).symm.trans (hji17z h_)
                    have H' := Aside0.mk H
                    clear H
                    obtain ⟨HGz18, hgz18⟩ := HI0.out
                    have hcz18_0 := cellS127_0 HGz18
                    have hcz18_1 := cellS127_1 HGz18
                    have hfz18_0 := blk_frozen HGz18 0
                    have hfz18_1 := blk_frozen HGz18 1
                    clear HGz18 hgz18
                    have p9 : 0 ≤ (x14_1 : Int) := of_decide_eq_true (by first | (with_reducible assumption) | assumption)
                    have q9 : x14_1 < (x1000_1.size : Int) := of_decide_eq_true (by first | (with_reducible assumption) | assumption)
                    have hx9 := bt_at x1000_1 x14_1
                    replace p9 := eq_true p9
                    replace q9 := eq_true q9
                    go_wp2
                    go_roundg k1
                    case measure => have := HK1.out; omega
                    case rel => exact ⟨(Go.bits .or .i64 x3_1 (ji17)), (wrap64 (x14_1 + 1)), (x1000_1), (x1001_1), (by first | rfl | (simp; done) | (simp only [← hji17] <;> (first | rfl | simp)) | (simp [*]; done)), (by first | rfl | (simp; done) | (simp [*]; done)), H', ⟨by have := HK1.out; omega⟩, ⟨by repeat (first | (with_reducible first | exact HI0.out | apply IsS127.alloc | apply IsS127.drewN | apply IsS127.drew | apply IsS127.set_0 | apply IsS127.set_1) | exact HI0.out)⟩, ⟨by repeat (first | (with_reducible first | exact HK.out | apply KeepBut.set_ | apply keep_drewN | apply keep_drew | apply keep_alloc) | exact HK.out)⟩, ⟨by repeat (first | (with_reducible first | exact HB.out | apply below_alloc | apply pw_below_drewN | apply below_drew1 | refine below_set ?_ (IsS127.ge HI0.out)) | exact HB.out)⟩⟩
                  · rw [if_neg c16] at H
                    exact absurd H (by simp)
              · rw [if_neg c10] at H
                have c10b0 : decide (128 ≤ (bt x1000_1 x14_1)) = false := decide_eq_false c10
                clear c10
                by_cases c19 : (bt x1000_1 x14_1) = 0
                · rw [if_pos c19] at H
                  have c19b0 : ((bt x1000_1 x14_1) == 0) = true := beq_iff_eq.mpr c19
                  have c19b1 : ((bt x1000_1 x14_1) != 0) = false := bne_eq_false_iff_eq.mpr c19
                  clear c19
                  by_cases c20 : x14_1 > 0
                  · rw [if_pos c20] at H
                    have c20b0 : decide (0 < x14_1) = true := decide_eq_true c20
                    clear c20
                    replace H := Option.bind_eq_some_iff.mp H
                    obtain ⟨⟨t304, t305⟩, A210, H⟩ := H
                    replace H : (some (0, t304, t305)) = some (r1, r2, r3) := H
                    have A21 := Aside0.mk A210
                    clear A210
                    simp only [Option.some.injEq, Prod.mk.injEq] at H
                    obtain ⟨rfl, rfl, rfl⟩ := H
                    obtain ⟨HGz22, hgz22⟩ := HI0.out
                    have hcz22_0 := cellS127_0 HGz22
                    have hcz22_1 := cellS127_1 HGz22
                    have hfz22_0 := blk_frozen HGz22 0
                    have hfz22_1 := blk_frozen HGz22 1
                    clear HGz22 hgz22
                    have p9 : 0 ≤ (x14_1 : Int) := of_decide_eq_true (by first | (with_reducible assumption) | assumption)
                    have q9 : x14_1 < (x1000_1.size : Int) := of_decide_eq_true (by first | (with_reducible assumption) | assumption)
                    have hx9 := bt_at x1000_1 x14_1
                    replace p9 := eq_true p9
                    replace q9 := eq_true q9
                    go_wp2_with (first | ((with_reducible refine gate_callee (f := 80) rfl ?_); refine goesL_ (some 44) rfl rfl Try.func80 (by kernel_rfl) rfl #[.pointer (some ⟨g, 0, none⟩), .int .i64 4] rfl (by (try simp only [List.map_toArray, List.map_cons, List.map_nil]); first | done | rfl | (simp only [List.length_drop, List.length_take]; rfl)) ?_; (with_reducible refine (pack_Reader_wrong.calls g x1000_1 x1001_1 4 t304 t305 w0 _ ?side1 ?side2 A21.out).mono ?_); (case side1 => repeat (first | (with_reducible first | exact HI0.out | apply IsS127.alloc | apply IsS127.drewN | apply IsS127.drew | apply IsS127.set_0 | apply IsS127.set_1) | exact HI0.out)); (case side2 => repeat (first | (with_reducible first | exact HB.out | apply below_alloc | apply pw_below_drewN | apply below_drew1 | refine below_set ?_ (IsS127.ge HI0.out)) | exact HB.out)); rintro e w23 ⟨rfl, hi, hb, hk⟩; refine ⟨_, rfl, ?_⟩; have n0_ := Aside0.mk (KeepBut.trans (by repeat (first | (with_reducible first | exact HK.out | apply KeepBut.set_ | apply keep_drewN | apply keep_drew | apply keep_alloc) | exact HK.out)) hk (.inl rfl)); have n1_ := Aside0.mk (hb); have n2_ := Aside0.mk (hi); clear HK; clear HB; clear HI0; have HK := n0_; have HB := n1_; have HI0 := n2_; clear n0_ n1_ n2_; (try clear hb); (try clear hb2); (try clear hk); (try clear hi)))
                    go_ret
                    exact ⟨by first | rfl | (simp [errW_none, errW_some] <;> rfl) | (simp [*, errW_none, errW_some] <;> rfl), by repeat (first | (with_reducible first | exact HI0.out | apply IsS127.alloc | apply IsS127.drewN | apply IsS127.drew | apply IsS127.set_0 | apply IsS127.set_1) | exact HI0.out), by repeat (first | (with_reducible first | exact HB.out | apply below_alloc | apply pw_below_drewN | apply below_drew1 | refine below_set ?_ (IsS127.ge HI0.out)) | exact HB.out), by repeat (first | (with_reducible first | exact HK.out | apply KeepBut.set_ | apply keep_drewN | apply keep_drew | apply keep_alloc) | exact HK.out)⟩
                  · rw [if_neg c20] at H
                    have c20b0 : decide (0 < x14_1) = false := decide_eq_false c20
                    clear c20
                    obtain ⟨ji24, hji24⟩ : ∃ j_ : Int, (wrap64 (x14_1 + 1)) = j_ := ⟨_, rfl⟩
                    replace H : (if 0 ≤ (ji24) then (if (ji24) ≤ (x1000_1.size : Int) then (if 0 ≤ (wrap64 (7 * x14_1)) then (some (Go.bits .or .i64 x3_1 (shl .i64 (wrap64 (bt x1000_1 x14_1)) (wrap64 (7 * x14_1))), x1000_1.extract ((ji24) : Int).toNat x1000_1.size, x1001_1)) else (none)) else (none)) else (none)) = some (r1, r2, r3) := by first | (rw [hji24] at H; exact H) | (simp only [hji24] at H ⊢; exact H)
                    have hji24w : (IntKind.i64.wrap (x14_1 + 1)) = ji24 := (i64_w _).trans hji24
                    by_cases c25 : 0 ≤ (ji24)
                    · rw [if_pos c25] at H
                      have c25b0 := eq_true c25
                      have c25b1 : decide (0 ≤ (ji24)) = true := decide_eq_true c25
                      clear c25
                      by_cases c26 : (ji24) ≤ (x1000_1.size : Int)
                      · rw [if_pos c26] at H
                        have c26b0 := eq_true c26
                        have c26b1 : decide ((ji24) ≤ (x1000_1.size : Int)) = true := decide_eq_true c26
                        clear c26
                        obtain ⟨ji27, hji27⟩ : ∃ j_ : Int, (wrap64 (7 * x14_1)) = j_ := ⟨_, rfl⟩
                        replace H : (if 0 ≤ (ji27) then (some (Go.bits .or .i64 x3_1 (shl .i64 (wrap64 (bt x1000_1 x14_1)) (ji27)), x1000_1.extract ((ji24) : Int).toNat x1000_1.size, x1001_1)) else (none)) = some (r1, r2, r3) := by first | (rw [hji27] at H; exact H) | (simp only [hji27] at H ⊢; exact H)
                        have hji27w : (IntKind.i64.wrap (7 * x14_1)) = ji27 := (i64_w _).trans hji27
                        by_cases c28 : 0 ≤ (ji27)
                        · rw [if_pos c28] at H
                          have c28b0 := eq_true c28
                          have c28b1 : decide (0 ≤ (ji27)) = true := decide_eq_true c28
                          clear c28
                          obtain ⟨ji29, hji29⟩ : ∃ j_ : Int, (shl .i64 (wrap64 (bt x1000_1 x14_1)) (ji27)) = j_ := ⟨_, rfl⟩
                          replace H : (some (Go.bits .or .i64 x3_1 (ji29), x1000_1.extract ((ji24) : Int).toNat x1000_1.size, x1001_1)) = some (r1, r2, r3) := by first | (rw [hji29] at H; exact H) | (simp only [hji29] at H ⊢; exact H)
                          have hji29_ : (IntKind.i64.wrap ((wrap64 (bt x1000_1 x14_1)) * 2 ^ min (ji27).toNat 64)) = ji29 := hji29
                          have hji29z : (ji27) ≤ 64 → (IntKind.i64.wrap ((wrap64 (bt x1000_1 x14_1)) * 2 ^ (ji27).toNat)) = ji29 := shl_small hji29
                          have hji29y : (wrap64 ((wrap64 (bt x1000_1 x14_1)) * 2 ^ min (ji27).toNat 64)) = ji29 := (i64_w _).symm.trans hji29_
                          have hji29x : (ji27) ≤ 64 → (wrap64 ((wrap64 (bt x1000_1 x14_1)) * 2 ^ (ji27).toNat)) = ji29 := fun h_ => (i64_w _).symm.trans (hji29z h_)
                          simp only [Option.some.injEq, Prod.mk.injEq] at H
                          obtain ⟨rfl, rfl, rfl⟩ := H
                          obtain ⟨HGz30, hgz30⟩ := HI0.out
                          have hcz30_0 := cellS127_0 HGz30
                          have hcz30_1 := cellS127_1 HGz30
                          have hfz30_0 := blk_frozen HGz30 0
                          have hfz30_1 := blk_frozen HGz30 1
                          clear HGz30 hgz30
                          have p9 : 0 ≤ (x14_1 : Int) := of_decide_eq_true (by first | (with_reducible assumption) | assumption)
                          have q9 : x14_1 < (x1000_1.size : Int) := of_decide_eq_true (by first | (with_reducible assumption) | assumption)
                          have hx9 := bt_at x1000_1 x14_1
                          replace p9 := eq_true p9
                          replace q9 := eq_true q9
                          go_wp2
                          go_ret
                          exact ⟨by first | rfl | (simp [errW_none, errW_some] <;> rfl) | (simp only [← hji24, ← hji27, ← hji29]; first | rfl | (simp [errW_none, errW_some] <;> rfl)) | (simp [*, errW_none, errW_some] <;> rfl), by repeat (first | (with_reducible first | exact HI0.out | apply IsS127.alloc | apply IsS127.drewN | apply IsS127.drew | apply IsS127.set_0 | apply IsS127.set_1) | exact HI0.out), by repeat (first | (with_reducible first | exact HB.out | apply below_alloc | apply pw_below_drewN | apply below_drew1 | refine below_set ?_ (IsS127.ge HI0.out)) | exact HB.out), by repeat (first | (with_reducible first | exact HK.out | apply KeepBut.set_ | apply keep_drewN | apply keep_drew | apply keep_alloc) | exact HK.out)⟩
                        · rw [if_neg c28] at H
                          exact absurd H (by simp)
                      · rw [if_neg c26] at H
                        exact absurd H (by simp)
                    · rw [if_neg c25] at H
                      exact absurd H (by simp)
                · rw [if_neg c19] at H
                  have c19b0 : ((bt x1000_1 x14_1) == 0) = false := beq_eq_false_iff_ne.mpr c19
                  have c19b1 : ((bt x1000_1 x14_1) != 0) = true := bne_iff_ne.mpr c19
                  obtain ⟨ji31, hji31⟩ : ∃ j_ : Int, (wrap64 (x14_1 + 1)) = j_ := ⟨_, rfl⟩
                  replace H : (if 0 ≤ (ji31) then (if (ji31) ≤ (x1000_1.size : Int) then (if 0 ≤ (wrap64 (7 * x14_1)) then (some (Go.bits .or .i64 x3_1 (shl .i64 (wrap64 (bt x1000_1 x14_1)) (wrap64 (7 * x14_1))), x1000_1.extract ((ji31) : Int).toNat x1000_1.size, x1001_1)) else (none)) else (none)) else (none)) = some (r1, r2, r3) := by first | (rw [hji31] at H; exact H) | (simp only [hji31] at H ⊢; exact H)
                  have hji31w : (IntKind.i64.wrap (x14_1 + 1)) = ji31 := (i64_w _).trans hji31
                  by_cases c32 : 0 ≤ (ji31)
                  · rw [if_pos c32] at H
                    have c32b0 := eq_true c32
                    have c32b1 : decide (0 ≤ (ji31)) = true := decide_eq_true c32
                    clear c32
                    by_cases c33 : (ji31) ≤ (x1000_1.size : Int)
                    · rw [if_pos c33] at H
                      have c33b0 := eq_true c33
                      have c33b1 : decide ((ji31) ≤ (x1000_1.size : Int)) = true := decide_eq_true c33
                      clear c33
                      obtain ⟨ji34, hji34⟩ : ∃ j_ : Int, (wrap64 (7 * x14_1)) = j_ := ⟨_, rfl⟩
                      replace H : (if 0 ≤ (ji34) then (some (Go.bits .or .i64 x3_1 (shl .i64 (wrap64 (bt x1000_1 x14_1)) (ji34)), x1000_1.extract ((ji31) : Int).toNat x1000_1.size, x1001_1)) else (none)) = some (r1, r2, r3) := by first | (rw [hji34] at H; exact H) | (simp only [hji34] at H ⊢; exact H)
                      have hji34w : (IntKind.i64.wrap (7 * x14_1)) = ji34 := (i64_w _).trans hji34
                      by_cases c35 : 0 ≤ (ji34)
                      · rw [if_pos c35] at H
                        have c35b0 := eq_true c35
                        have c35b1 : decide (0 ≤ (ji34)) = true := decide_eq_true c35
                        clear c35
                        obtain ⟨ji36, hji36⟩ : ∃ j_ : Int, (shl .i64 (wrap64 (bt x1000_1 x14_1)) (ji34)) = j_ := ⟨_, rfl⟩
                        replace H : (some (Go.bits .or .i64 x3_1 (ji36), x1000_1.extract ((ji31) : Int).toNat x1000_1.size, x1001_1)) = some (r1, r2, r3) := by first | (rw [hji36] at H; exact H) | (simp only [hji36] at H ⊢; exact H)
                        have hji36_ : (IntKind.i64.wrap ((wrap64 (bt x1000_1 x14_1)) * 2 ^ min (ji34).toNat 64)) = ji36 := hji36
                        have hji36z : (ji34) ≤ 64 → (IntKind.i64.wrap ((wrap64 (bt x1000_1 x14_1)) * 2 ^ (ji34).toNat)) = ji36 := shl_small hji36
                        have hji36y : (wrap64 ((wrap64 (bt x1000_1 x14_1)) * 2 ^ min (ji34).toNat 64)) = ji36 := (i64_w _).symm.trans hji36_
                        have hji36x : (ji34) ≤ 64 → (wrap64 ((wrap64 (bt x1000_1 x14_1)) * 2 ^ (ji34).toNat)) = ji36 := fun h_ => (i64_w _).symm.trans (hji36z h_)
                        simp only [Option.some.injEq, Prod.mk.injEq] at H
                        obtain ⟨rfl, rfl, rfl⟩ := H
                        obtain ⟨HGz37, hgz37⟩ := HI0.out
                        have hcz37_0 := cellS127_0 HGz37
                        have hcz37_1 := cellS127_1 HGz37
                        have hfz37_0 := blk_frozen HGz37 0
                        have hfz37_1 := blk_frozen HGz37 1
                        clear HGz37 hgz37
                        have p9 : 0 ≤ (x14_1 : Int) := of_decide_eq_true (by first | (with_reducible assumption) | assumption)
                        have q9 : x14_1 < (x1000_1.size : Int) := of_decide_eq_true (by first | (with_reducible assumption) | assumption)
                        have hx9 := bt_at x1000_1 x14_1
                        replace p9 := eq_true p9
                        replace q9 := eq_true q9
                        go_wp2
                        go_ret
                        exact ⟨by first | rfl | (simp [errW_none, errW_some] <;> rfl) | (simp only [← hji31, ← hji34, ← hji36]; first | rfl | (simp [errW_none, errW_some] <;> rfl)) | (simp [*, errW_none, errW_some] <;> rfl), by repeat (first | (with_reducible first | exact HI0.out | apply IsS127.alloc | apply IsS127.drewN | apply IsS127.drew | apply IsS127.set_0 | apply IsS127.set_1) | exact HI0.out), by repeat (first | (with_reducible first | exact HB.out | apply below_alloc | apply pw_below_drewN | apply below_drew1 | refine below_set ?_ (IsS127.ge HI0.out)) | exact HB.out), by repeat (first | (with_reducible first | exact HK.out | apply KeepBut.set_ | apply keep_drewN | apply keep_drew | apply keep_alloc) | exact HK.out)⟩
                      · rw [if_neg c35] at H
                        exact absurd H (by simp)
                    · rw [if_neg c33] at H
                      exact absurd H (by simp)
                  · rw [if_neg c32] at H
                    exact absurd H (by simp)
            · rw [if_neg c8] at H
              exact absurd H (by simp)
          · rw [if_neg c7] at H
            exact absurd H (by simp)
        · rw [if_neg c6] at H
          have c6b0 : decide (x14_1 < (t298.size : Int)) = false := decide_eq_false c6
          clear c6
          replace H := Option.bind_eq_some_iff.mp H
          obtain ⟨⟨t300, t301⟩, A380, H⟩ := H
          replace H : (some (0, t300, t301)) = some (r1, r2, r3) := H
          have A38 := Aside0.mk A380
          clear A380
          simp only [Option.some.injEq, Prod.mk.injEq] at H
          obtain ⟨rfl, rfl, rfl⟩ := H
          go_wp2_with (first | ((with_reducible refine gate_callee (f := 80) rfl ?_); refine goesL_ (some 64) rfl rfl Try.func80 (by kernel_rfl) rfl #[.pointer (some ⟨g, 0, none⟩), .int .i64 3] rfl (by (try simp only [List.map_toArray, List.map_cons, List.map_nil]); first | done | rfl | (simp only [List.length_drop, List.length_take]; rfl)) ?_; (with_reducible refine (pack_Reader_wrong.calls g x1000_1 x1001_1 3 t300 t301 w0 _ ?side1 ?side2 A38.out).mono ?_); (case side1 => repeat (first | (with_reducible first | exact HI0.out | apply IsS127.alloc | apply IsS127.drewN | apply IsS127.drew | apply IsS127.set_0 | apply IsS127.set_1) | exact HI0.out)); (case side2 => repeat (first | (with_reducible first | exact HB.out | apply below_alloc | apply pw_below_drewN | apply below_drew1 | refine below_set ?_ (IsS127.ge HI0.out)) | exact HB.out)); rintro e w39 ⟨rfl, hi, hb, hk⟩; refine ⟨_, rfl, ?_⟩; have n0_ := Aside0.mk (KeepBut.trans (by repeat (first | (with_reducible first | exact HK.out | apply KeepBut.set_ | apply keep_drewN | apply keep_drew | apply keep_alloc) | exact HK.out)) hk (.inl rfl)); have n1_ := Aside0.mk (hb); have n2_ := Aside0.mk (hi); clear HK; clear HB; clear HI0; have HK := n0_; have HB := n1_; have HI0 := n2_; clear n0_ n1_ n2_; (try clear hb); (try clear hb2); (try clear hk); (try clear hi)))
          go_ret
          exact ⟨by first | rfl | (simp [errW_none, errW_some] <;> rfl) | (simp [*, errW_none, errW_some] <;> rfl), by repeat (first | (with_reducible first | exact HI0.out | apply IsS127.alloc | apply IsS127.drewN | apply IsS127.drew | apply IsS127.set_0 | apply IsS127.set_1) | exact HI0.out), by repeat (first | (with_reducible first | exact HB.out | apply below_alloc | apply pw_below_drewN | apply below_drew1 | refine below_set ?_ (IsS127.ge HI0.out)) | exact HB.out), by repeat (first | (with_reducible first | exact HK.out | apply KeepBut.set_ | apply keep_drewN | apply keep_drew | apply keep_alloc) | exact HK.out)⟩
  · replace c3 := Bool.eq_false_iff.mpr c3
    subst c3
    have H1 : (some (0, t298, t299)) = some (r1, r2, r3) := by rw [if_neg (show ¬ (false = true) by decide)] at H; exact H
    clear H
    have H := H1
    clear H1
    simp only [Option.some.injEq, Prod.mk.injEq] at H
    obtain ⟨rfl, rfl, rfl⟩ := H
    go_enter Try.func62, Try.ntmps62
    go_wp2_with (first | ((with_reducible refine gate_callee (f := 79) rfl ?_); refine goesL_ (some 7) rfl rfl Try.func79 (by kernel_rfl) rfl #[.pointer (some ⟨g, 0, none⟩)] rfl (by (try simp only [List.map_toArray, List.map_cons, List.map_nil]); first | done | rfl | (simp only [List.length_drop, List.length_take]; rfl)) ?_; (with_reducible refine (pack_Reader_works.calls g s0_0 s0_1 false t298 t299 w0 _ ?side1 ?side2 A2.out).mono ?_); (case side1 => repeat (first | (with_reducible first | exact HI0.out | apply IsS127.alloc | apply IsS127.drewN | apply IsS127.drew | apply IsS127.set_0 | apply IsS127.set_1) | exact HI0.out)); (case side2 => repeat (first | (with_reducible first | exact HB.out | apply below_alloc | apply pw_below_drewN | apply below_drew1 | refine below_set ?_ (IsS127.ge HI0.out)) | exact HB.out)); rintro e w40 ⟨rfl, hi, hb, hk⟩; refine ⟨_, rfl, ?_⟩; have n0_ := Aside0.mk (KeepBut.trans (by repeat (first | (with_reducible first | exact HK.out | apply KeepBut.set_ | apply keep_drewN | apply keep_drew | apply keep_alloc) | exact HK.out)) hk (.inl rfl)); have n1_ := Aside0.mk (hb); have n2_ := Aside0.mk (hi); clear HK; clear HB; clear HI0; have HK := n0_; have HB := n1_; have HI0 := n2_; clear n0_ n1_ n2_; (try clear hb); (try clear hb2); (try clear hk); (try clear hi)))
    go_ret
    exact ⟨by first | rfl | (simp [errW_none, errW_some] <;> rfl) | (simp [*, errW_none, errW_some] <;> rfl), by repeat (first | (with_reducible first | exact HI0.out | apply IsS127.alloc | apply IsS127.drewN | apply IsS127.drew | apply IsS127.set_0 | apply IsS127.set_1) | exact HI0.out), by repeat (first | (with_reducible first | exact HB.out | apply below_alloc | apply pw_below_drewN | apply below_drew1 | refine below_set ?_ (IsS127.ge HI0.out)) | exact HB.out), by repeat (first | (with_reducible first | exact HK.out | apply KeepBut.set_ | apply keep_drewN | apply keep_drew | apply keep_alloc) | exact HK.out)⟩
def pack_Reader_Text.j0 : Nat → Int → Bool → ByteArray → Int → Option (ByteArray × ByteArray × Int)
  | 0, _, _, _, _ => none
  | k + 1, x3, x17, x1000, x1001 => if x17 = true then ((pack_Reader_wrong.f x1000 x1001 3).bind fun bt312 => ((pack_Reader_works.f bt312.1 bt312.2).bind fun bt314 => (if bt314.1 = true then (if 0 ≤ x3 then (if x3 ≤ (bt314.2.1.size : Int) then (some (bt314.2.1.extract 0 (x3 : Int).toNat, bt314.2.1.extract (x3 : Int).toNat bt314.2.1.size, bt314.2.2)) else (none)) else (none)) else (some ((⟨#[]⟩ : ByteArray), bt314.2.1, bt314.2.2))))) else ((pack_Reader_works.f x1000 x1001).bind fun bt317 => (if bt317.1 = true then (if 0 ≤ x3 then (if x3 ≤ (bt317.2.1.size : Int) then (some (bt317.2.1.extract 0 (x3 : Int).toNat, bt317.2.1.extract (x3 : Int).toNat bt317.2.1.size, bt317.2.2)) else (none)) else (none)) else (some ((⟨#[]⟩ : ByteArray), bt317.2.1, bt317.2.2))))
def pack_Reader_Text.f (k : Nat) (s0_0 : ByteArray) (s0_1 : Int) : Option (ByteArray × ByteArray × Int) := (pack_Reader_Number.f k s0_0 s0_1).bind fun bt306 => ((pack_Reader_works.f bt306.2.1 bt306.2.2).bind fun bt309 => (if bt309.1 = true then (pack_Reader_Text.j0 k bt306.1 (decide (bt306.1 > (bt309.2.1.size : Int))) bt309.2.1 bt309.2.2) else (pack_Reader_Text.j0 k bt306.1 false bt309.2.1 bt309.2.2)))
set_option maxHeartbeats 8000000 in
set_option maxRecDepth 100000 in
theorem pack_Reader_Text.calls (k : Nat) (g : Nat) (s0_0 : ByteArray) (s0_1 : Int) (r1 : ByteArray) (r2 : ByteArray) (r3 : Int) (w0 w : World) (hI : IsS127 w0 w g s0_0 s0_1) (hB : Below w0.heap.size w0 w) (h : pack_Reader_Text.f k s0_0 s0_1 = some (r1, r2, r3)) :
    Calls Try.prog 63 #[.pointer (some ⟨g, 0, none⟩)] w fun e w' => e = .returned (.string r1) ∧ IsS127 w0 w' g r2 r3 ∧ Below w0.heap.size w0 w' ∧ KeepBut w w' g none := by
  have HI0 := Aside0.mk hI
  have HK := Aside0.mk (KeepBut.refl w g none)
  have HL := Aside0.mk hB.size
  clear hI
  have HW0 := Aside0.mk hB.size
  have HB := Aside0.mk hB
  clear hB
  have H : ((pack_Reader_Number.f k s0_0 s0_1).bind fun bt306 => ((pack_Reader_works.f bt306.2.1 bt306.2.2).bind fun bt309 => (if bt309.1 = true then (pack_Reader_Text.j0 k bt306.1 (decide (bt306.1 > (bt309.2.1.size : Int))) bt309.2.1 bt309.2.2) else (pack_Reader_Text.j0 k bt306.1 false bt309.2.1 bt309.2.2)))) = some (r1, r2, r3) := h
  clear h
  replace H := Option.bind_eq_some_iff.mp H
  obtain ⟨⟨t306, t307, t308⟩, A20, H⟩ := H
  replace H : ((pack_Reader_works.f t307 t308).bind fun bt309 => (if bt309.1 = true then (pack_Reader_Text.j0 k t306 (decide (t306 > (bt309.2.1.size : Int))) bt309.2.1 bt309.2.2) else (pack_Reader_Text.j0 k t306 false bt309.2.1 bt309.2.2))) = some (r1, r2, r3) := H
  have A2 := Aside0.mk A20
  clear A20
  have HC3 := Aside0.mk H
  clear H
  go_enter Try.func63, Try.ntmps63
  go_upto_region 2 with (first | ((with_reducible refine gate_callee (f := 62) rfl ?_); refine goesL_ (some 6) rfl rfl Try.func62 (by kernel_rfl) rfl #[.pointer (some ⟨g, 0, none⟩)] rfl (by (try simp only [List.map_toArray, List.map_cons, List.map_nil]); first | done | rfl | (simp only [List.length_drop, List.length_take]; rfl)) ?_; (with_reducible refine (pack_Reader_Number.calls k g s0_0 s0_1 t306 t307 t308 w0 _ ?side1 ?side2 A2.out).mono ?_); (case side1 => repeat (first | (with_reducible first | exact HI0.out | apply IsS127.alloc | apply IsS127.drewN | apply IsS127.drew | apply IsS127.set_0 | apply IsS127.set_1) | exact HI0.out)); (case side2 => repeat (first | (with_reducible first | exact HB.out | apply below_alloc | apply pw_below_drewN | apply below_drew1 | refine below_set ?_ (IsS127.ge HI0.out)) | exact HB.out)); rintro e w4 ⟨rfl, hi, hb, hk⟩; refine ⟨_, rfl, ?_⟩; have n0_ := Aside0.mk (KeepBut.trans (by repeat (first | (with_reducible first | exact HK.out | apply KeepBut.set_ | apply keep_drewN | apply keep_drew | apply keep_alloc) | exact HK.out)) hk (.inl rfl)); have n1_ := Aside0.mk (hb); have n2_ := Aside0.mk (hi); clear HK; clear HB; clear HI0; have HK := n0_; have HB := n1_; have HI0 := n2_; clear n0_ n1_ n2_; (try clear hb); (try clear hb2); (try clear hk); (try clear hi)))
  (try simp only [Act.put, List.setIfInBounds_toArray, List.set_cons_zero, List.set_cons_succ])
  go_cut [17] (fun v17 wc => ∃ (kq : Nat) (x17_2 : Bool) (x1000_2 : ByteArray) (x1001_2 : Int), v17 = .bool x17_2 ∧ Aside0 (pack_Reader_Text.j0 kq t306 x17_2 x1000_2 x1001_2 = some (r1, r2, r3)) ∧ Aside0 (kq ≤ k) ∧ Aside0 (IsS127 w0 wc g x1000_2 x1001_2) ∧ Aside0 (KeepBut w wc g none) ∧ Aside0 (Below w0.heap.size w0 wc))
  case first =>
    have H := HC3.out
    clear HC3
    replace H := Option.bind_eq_some_iff.mp H
    obtain ⟨⟨t309, t310, t311⟩, A50, H⟩ := H
    replace H : (if t309 = true then (pack_Reader_Text.j0 k t306 (decide (t306 > (t310.size : Int))) t310 t311) else (pack_Reader_Text.j0 k t306 false t310 t311)) = some (r1, r2, r3) := H
    have A5 := Aside0.mk A50
    clear A50
    by_cases c6 : t309 = true
    · subst c6
      have H1 : (pack_Reader_Text.j0 k t306 (decide (t306 > (t310.size : Int))) t310 t311) = some (r1, r2, r3) := by rw [if_pos rfl] at H; exact H
      clear H
      have H := H1
      clear H1
      have H' := Aside0.mk H
      clear H
      go_wp2_with (first | ((with_reducible refine gate_callee (f := 79) rfl ?_); refine goesL_ (some 8) rfl rfl Try.func79 (by kernel_rfl) rfl #[.pointer (some ⟨g, 0, none⟩)] rfl (by (try simp only [List.map_toArray, List.map_cons, List.map_nil]); first | done | rfl | (simp only [List.length_drop, List.length_take]; rfl)) ?_; (with_reducible refine (pack_Reader_works.calls g t307 t308 true t310 t311 w0 _ ?side1 ?side2 A5.out).mono ?_); (case side1 => repeat (first | (with_reducible first | exact HI0.out | apply IsS127.alloc | apply IsS127.drewN | apply IsS127.drew | apply IsS127.set_0 | apply IsS127.set_1) | exact HI0.out)); (case side2 => repeat (first | (with_reducible first | exact HB.out | apply below_alloc | apply pw_below_drewN | apply below_drew1 | refine below_set ?_ (IsS127.ge HI0.out)) | exact HB.out)); rintro e w7 ⟨rfl, hi, hb, hk⟩; refine ⟨_, rfl, ?_⟩; have n0_ := Aside0.mk (KeepBut.trans (by repeat (first | (with_reducible first | exact HK.out | apply KeepBut.set_ | apply keep_drewN | apply keep_drew | apply keep_alloc) | exact HK.out)) hk (.inl rfl)); have n1_ := Aside0.mk (hb); have n2_ := Aside0.mk (hi); clear HK; clear HB; clear HI0; have HK := n0_; have HB := n1_; have HI0 := n2_; clear n0_ n1_ n2_; (try clear hb); (try clear hb2); (try clear hk); (try clear hi); obtain ⟨HGz8, hgz8⟩ := HI0.out; have hcz8_0 := cellS127_0 HGz8; have hcz8_1 := cellS127_1 HGz8; have hfz8_0 := blk_frozen HGz8 0; have hfz8_1 := blk_frozen HGz8 1; clear HGz8 hgz8))
      go_meet
      case rel => exact ⟨_, (decide (t306 > (t310.size : Int))), (t310), (t311), (by first | rfl | (simp; done) | (simp [*]; done)), H', ⟨by first | omega | exact Nat.le_refl _⟩, ⟨by repeat (first | (with_reducible first | exact HI0.out | apply IsS127.alloc | apply IsS127.drewN | apply IsS127.drew | apply IsS127.set_0 | apply IsS127.set_1) | exact HI0.out)⟩, ⟨by repeat (first | (with_reducible first | exact HK.out | apply KeepBut.set_ | apply keep_drewN | apply keep_drew | apply keep_alloc) | exact HK.out)⟩, ⟨by repeat (first | (with_reducible first | exact HB.out | apply below_alloc | apply pw_below_drewN | apply below_drew1 | refine below_set ?_ (IsS127.ge HI0.out)) | exact HB.out)⟩⟩
    · replace c6 := Bool.eq_false_iff.mpr c6
      subst c6
      have H1 : (pack_Reader_Text.j0 k t306 false t310 t311) = some (r1, r2, r3) := by rw [if_neg (show ¬ (false = true) by decide)] at H; exact H
      clear H
      have H := H1
      clear H1
      have H' := Aside0.mk H
      clear H
      go_wp2_with (first | ((with_reducible refine gate_callee (f := 79) rfl ?_); refine goesL_ (some 8) rfl rfl Try.func79 (by kernel_rfl) rfl #[.pointer (some ⟨g, 0, none⟩)] rfl (by (try simp only [List.map_toArray, List.map_cons, List.map_nil]); first | done | rfl | (simp only [List.length_drop, List.length_take]; rfl)) ?_; (with_reducible refine (pack_Reader_works.calls g t307 t308 false t310 t311 w0 _ ?side1 ?side2 A5.out).mono ?_); (case side1 => repeat (first | (with_reducible first | exact HI0.out | apply IsS127.alloc | apply IsS127.drewN | apply IsS127.drew | apply IsS127.set_0 | apply IsS127.set_1) | exact HI0.out)); (case side2 => repeat (first | (with_reducible first | exact HB.out | apply below_alloc | apply pw_below_drewN | apply below_drew1 | refine below_set ?_ (IsS127.ge HI0.out)) | exact HB.out)); rintro e w9 ⟨rfl, hi, hb, hk⟩; refine ⟨_, rfl, ?_⟩; have n0_ := Aside0.mk (KeepBut.trans (by repeat (first | (with_reducible first | exact HK.out | apply KeepBut.set_ | apply keep_drewN | apply keep_drew | apply keep_alloc) | exact HK.out)) hk (.inl rfl)); have n1_ := Aside0.mk (hb); have n2_ := Aside0.mk (hi); clear HK; clear HB; clear HI0; have HK := n0_; have HB := n1_; have HI0 := n2_; clear n0_ n1_ n2_; (try clear hb); (try clear hb2); (try clear hk); (try clear hi)))
      go_meet
      case rel => exact ⟨_, (false), (t310), (t311), (by first | rfl | (simp; done) | (simp [*]; done)), H', ⟨by first | omega | exact Nat.le_refl _⟩, ⟨by repeat (first | (with_reducible first | exact HI0.out | apply IsS127.alloc | apply IsS127.drewN | apply IsS127.drew | apply IsS127.set_0 | apply IsS127.set_1) | exact HI0.out)⟩, ⟨by repeat (first | (with_reducible first | exact HK.out | apply KeepBut.set_ | apply keep_drewN | apply keep_drew | apply keep_alloc) | exact HK.out)⟩, ⟨by repeat (first | (with_reducible first | exact HB.out | apply below_alloc | apply pw_below_drewN | apply below_drew1 | refine below_set ?_ (IsS127.ge HI0.out)) | exact HB.out)⟩⟩
  case rest =>
    clear HC3
    try clear p2
    try clear c6
    try clear c7
    try clear hcz8_0
    try clear hcz8_1
    try clear hfz8_0
    try clear hfz8_1
    obtain ⟨kq, x17_2, x1000_2, x1001_2, rfl, HA, HJ2, HI0, HK, HB⟩ := hcut
    cases kq with
    | zero => exact absurd HA.out (by simp [pack_Reader_Text.j0])
    | succ kj2 =>
      have H := HA.out
      clear HA
      simp only [pack_Reader_Text.j0] at H
      by_cases c10 : x17_2 = true
      · subst c10
        have H1 : ((pack_Reader_wrong.f x1000_2 x1001_2 3).bind fun bt312 => ((pack_Reader_works.f bt312.1 bt312.2).bind fun bt314 => (if bt314.1 = true then (if 0 ≤ t306 then (if t306 ≤ (bt314.2.1.size : Int) then (some (bt314.2.1.extract 0 (t306 : Int).toNat, bt314.2.1.extract (t306 : Int).toNat bt314.2.1.size, bt314.2.2)) else (none)) else (none)) else (some ((⟨#[]⟩ : ByteArray), bt314.2.1, bt314.2.2))))) = some (r1, r2, r3) := by rw [if_pos rfl] at H; exact H
        clear H
        have H := H1
        clear H1
        replace H := Option.bind_eq_some_iff.mp H
        obtain ⟨⟨t312, t313⟩, A110, H⟩ := H
        replace H : ((pack_Reader_works.f t312 t313).bind fun bt314 => (if bt314.1 = true then (if 0 ≤ t306 then (if t306 ≤ (bt314.2.1.size : Int) then (some (bt314.2.1.extract 0 (t306 : Int).toNat, bt314.2.1.extract (t306 : Int).toNat bt314.2.1.size, bt314.2.2)) else (none)) else (none)) else (some ((⟨#[]⟩ : ByteArray), bt314.2.1, bt314.2.2)))) = some (r1, r2, r3) := H
        have A11 := Aside0.mk A110
        clear A110
        replace H := Option.bind_eq_some_iff.mp H
        obtain ⟨⟨t314, t315, t316⟩, A120, H⟩ := H
        replace H : (if t314 = true then (if 0 ≤ t306 then (if t306 ≤ (t315.size : Int) then (some (t315.extract 0 (t306 : Int).toNat, t315.extract (t306 : Int).toNat t315.size, t316)) else (none)) else (none)) else (some ((⟨#[]⟩ : ByteArray), t315, t316))) = some (r1, r2, r3) := H
        have A12 := Aside0.mk A120
        clear A120
        by_cases c13 : t314 = true
        · subst c13
          have H1 : (if 0 ≤ t306 then (if t306 ≤ (t315.size : Int) then (some (t315.extract 0 (t306 : Int).toNat, t315.extract (t306 : Int).toNat t315.size, t316)) else (none)) else (none)) = some (r1, r2, r3) := by rw [if_pos rfl] at H; exact H
          clear H
          have H := H1
          clear H1
          by_cases c14 : 0 ≤ t306
          · rw [if_pos c14] at H
            have c14b0 := eq_true c14
            have c14b1 : decide (0 ≤ t306) = true := decide_eq_true c14
            clear c14
            by_cases c15 : t306 ≤ (t315.size : Int)
            · rw [if_pos c15] at H
              have c15b0 := eq_true c15
              have c15b1 : decide (t306 ≤ (t315.size : Int)) = true := decide_eq_true c15
              clear c15
              have c16b0 := eq_true (of_decide_eq_true (by first | (with_reducible assumption) | assumption) : 0 ≤ t306)
              have c17b0 := eq_true (of_decide_eq_true (by first | (with_reducible assumption) | assumption) : t306 ≤ (t315.size : Int))
              simp only [Option.some.injEq, Prod.mk.injEq] at H
              obtain ⟨rfl, rfl, rfl⟩ := H
              go_wp2_with (first | ((with_reducible refine gate_callee (f := 80) rfl ?_); refine goesL_ (some 19) rfl rfl Try.func80 (by kernel_rfl) rfl #[.pointer (some ⟨g, 0, none⟩), .int .i64 3] rfl (by (try simp only [List.map_toArray, List.map_cons, List.map_nil]); first | done | rfl | (simp only [List.length_drop, List.length_take]; rfl)) ?_; (with_reducible refine (pack_Reader_wrong.calls g x1000_2 x1001_2 3 t312 t313 w0 _ ?side1 ?side2 A11.out).mono ?_); (case side1 => repeat (first | (with_reducible first | exact HI0.out | apply IsS127.alloc | apply IsS127.drewN | apply IsS127.drew | apply IsS127.set_0 | apply IsS127.set_1) | exact HI0.out)); (case side2 => repeat (first | (with_reducible first | exact HB.out | apply below_alloc | apply pw_below_drewN | apply below_drew1 | refine below_set ?_ (IsS127.ge HI0.out)) | exact HB.out)); rintro e w18 ⟨rfl, hi, hb, hk⟩; refine ⟨_, rfl, ?_⟩; have n0_ := Aside0.mk (KeepBut.trans (by repeat (first | (with_reducible first | exact HK.out | apply KeepBut.set_ | apply keep_drewN | apply keep_drew | apply keep_alloc) | exact HK.out)) hk (.inl rfl)); have n1_ := Aside0.mk (hb); have n2_ := Aside0.mk (hi); clear HK; clear HB; clear HI0; have HK := n0_; have HB := n1_; have HI0 := n2_; clear n0_ n1_ n2_; (try clear hb); (try clear hb2); (try clear hk); (try clear hi)) | ((with_reducible refine gate_callee (f := 79) rfl ?_); refine goesL_ (some 21) rfl rfl Try.func79 (by kernel_rfl) rfl #[.pointer (some ⟨g, 0, none⟩)] rfl (by (try simp only [List.map_toArray, List.map_cons, List.map_nil]); first | done | rfl | (simp only [List.length_drop, List.length_take]; rfl)) ?_; (with_reducible refine (pack_Reader_works.calls g t312 t313 true t315 t316 w0 _ ?side1 ?side2 A12.out).mono ?_); (case side1 => repeat (first | (with_reducible first | exact HI0.out | apply IsS127.alloc | apply IsS127.drewN | apply IsS127.drew | apply IsS127.set_0 | apply IsS127.set_1) | exact HI0.out)); (case side2 => repeat (first | (with_reducible first | exact HB.out | apply below_alloc | apply pw_below_drewN | apply below_drew1 | refine below_set ?_ (IsS127.ge HI0.out)) | exact HB.out)); rintro e w19 ⟨rfl, hi, hb, hk⟩; refine ⟨_, rfl, ?_⟩; have n0_ := Aside0.mk (KeepBut.trans (by repeat (first | (with_reducible first | exact HK.out | apply KeepBut.set_ | apply keep_drewN | apply keep_drew | apply keep_alloc) | exact HK.out)) hk (.inl rfl)); have n1_ := Aside0.mk (hb); have n2_ := Aside0.mk (hi); clear HK; clear HB; clear HI0; have HK := n0_; have HB := n1_; have HI0 := n2_; clear n0_ n1_ n2_; (try clear hb); (try clear hb2); (try clear hk); (try clear hi); obtain ⟨HGz20, hgz20⟩ := HI0.out; have hcz20_0 := cellS127_0 HGz20; have hcz20_1 := cellS127_1 HGz20; have hfz20_0 := blk_frozen HGz20 0; have hfz20_1 := blk_frozen HGz20 1; clear HGz20 hgz20))
              go_ret
              exact ⟨by first | rfl | (simp [errW_none, errW_some] <;> rfl) | (simp [*, errW_none, errW_some] <;> rfl), by repeat (first | (with_reducible first | exact HI0.out | apply IsS127.alloc | apply IsS127.drewN | apply IsS127.drew | apply IsS127.set_0 | apply IsS127.set_1) | exact HI0.out), by repeat (first | (with_reducible first | exact HB.out | apply below_alloc | apply pw_below_drewN | apply below_drew1 | refine below_set ?_ (IsS127.ge HI0.out)) | exact HB.out), by repeat (first | (with_reducible first | exact HK.out | apply KeepBut.set_ | apply keep_drewN | apply keep_drew | apply keep_alloc) | exact HK.out)⟩
            · rw [if_neg c15] at H
              exact absurd H (by simp)
          · rw [if_neg c14] at H
            exact absurd H (by simp)
        · replace c13 := Bool.eq_false_iff.mpr c13
          subst c13
          have H1 : (some ((⟨#[]⟩ : ByteArray), t315, t316)) = some (r1, r2, r3) := by rw [if_neg (show ¬ (false = true) by decide)] at H; exact H
          clear H
          have H := H1
          clear H1
          simp only [Option.some.injEq, Prod.mk.injEq] at H
          obtain ⟨rfl, rfl, rfl⟩ := H
          go_wp2_with (first | ((with_reducible refine gate_callee (f := 80) rfl ?_); refine goesL_ (some 19) rfl rfl Try.func80 (by kernel_rfl) rfl #[.pointer (some ⟨g, 0, none⟩), .int .i64 3] rfl (by (try simp only [List.map_toArray, List.map_cons, List.map_nil]); first | done | rfl | (simp only [List.length_drop, List.length_take]; rfl)) ?_; (with_reducible refine (pack_Reader_wrong.calls g x1000_2 x1001_2 3 t312 t313 w0 _ ?side1 ?side2 A11.out).mono ?_); (case side1 => repeat (first | (with_reducible first | exact HI0.out | apply IsS127.alloc | apply IsS127.drewN | apply IsS127.drew | apply IsS127.set_0 | apply IsS127.set_1) | exact HI0.out)); (case side2 => repeat (first | (with_reducible first | exact HB.out | apply below_alloc | apply pw_below_drewN | apply below_drew1 | refine below_set ?_ (IsS127.ge HI0.out)) | exact HB.out)); rintro e w21 ⟨rfl, hi, hb, hk⟩; refine ⟨_, rfl, ?_⟩; have n0_ := Aside0.mk (KeepBut.trans (by repeat (first | (with_reducible first | exact HK.out | apply KeepBut.set_ | apply keep_drewN | apply keep_drew | apply keep_alloc) | exact HK.out)) hk (.inl rfl)); have n1_ := Aside0.mk (hb); have n2_ := Aside0.mk (hi); clear HK; clear HB; clear HI0; have HK := n0_; have HB := n1_; have HI0 := n2_; clear n0_ n1_ n2_; (try clear hb); (try clear hb2); (try clear hk); (try clear hi)) | ((with_reducible refine gate_callee (f := 79) rfl ?_); refine goesL_ (some 21) rfl rfl Try.func79 (by kernel_rfl) rfl #[.pointer (some ⟨g, 0, none⟩)] rfl (by (try simp only [List.map_toArray, List.map_cons, List.map_nil]); first | done | rfl | (simp only [List.length_drop, List.length_take]; rfl)) ?_; (with_reducible refine (pack_Reader_works.calls g t312 t313 false t315 t316 w0 _ ?side1 ?side2 A12.out).mono ?_); (case side1 => repeat (first | (with_reducible first | exact HI0.out | apply IsS127.alloc | apply IsS127.drewN | apply IsS127.drew | apply IsS127.set_0 | apply IsS127.set_1) | exact HI0.out)); (case side2 => repeat (first | (with_reducible first | exact HB.out | apply below_alloc | apply pw_below_drewN | apply below_drew1 | refine below_set ?_ (IsS127.ge HI0.out)) | exact HB.out)); rintro e w22 ⟨rfl, hi, hb, hk⟩; refine ⟨_, rfl, ?_⟩; have n0_ := Aside0.mk (KeepBut.trans (by repeat (first | (with_reducible first | exact HK.out | apply KeepBut.set_ | apply keep_drewN | apply keep_drew | apply keep_alloc) | exact HK.out)) hk (.inl rfl)); have n1_ := Aside0.mk (hb); have n2_ := Aside0.mk (hi); clear HK; clear HB; clear HI0; have HK := n0_; have HB := n1_; have HI0 := n2_; clear n0_ n1_ n2_; (try clear hb); (try clear hb2); (try clear hk); (try clear hi)))
          go_ret
          exact ⟨by first | rfl | (simp [errW_none, errW_some] <;> rfl) | (simp [*, errW_none, errW_some] <;> rfl), by repeat (first | (with_reducible first | exact HI0.out | apply IsS127.alloc | apply IsS127.drewN | apply IsS127.drew | apply IsS127.set_0 | apply IsS127.set_1) | exact HI0.out), by repeat (first | (with_reducible first | exact HB.out | apply below_alloc | apply pw_below_drewN | apply below_drew1 | refine below_set ?_ (IsS127.ge HI0.out)) | exact HB.out), by repeat (first | (with_reducible first | exact HK.out | apply KeepBut.set_ | apply keep_drewN | apply keep_drew | apply keep_alloc) | exact HK.out)⟩
      · replace c10 := Bool.eq_false_iff.mpr c10
        subst c10
        have H1 : ((pack_Reader_works.f x1000_2 x1001_2).bind fun bt317 => (if bt317.1 = true then (if 0 ≤ t306 then (if t306 ≤ (bt317.2.1.size : Int) then (some (bt317.2.1.extract 0 (t306 : Int).toNat, bt317.2.1.extract (t306 : Int).toNat bt317.2.1.size, bt317.2.2)) else (none)) else (none)) else (some ((⟨#[]⟩ : ByteArray), bt317.2.1, bt317.2.2)))) = some (r1, r2, r3) := by rw [if_neg (show ¬ (false = true) by decide)] at H; exact H
        clear H
        have H := H1
        clear H1
        replace H := Option.bind_eq_some_iff.mp H
        obtain ⟨⟨t317, t318, t319⟩, A230, H⟩ := H
        replace H : (if t317 = true then (if 0 ≤ t306 then (if t306 ≤ (t318.size : Int) then (some (t318.extract 0 (t306 : Int).toNat, t318.extract (t306 : Int).toNat t318.size, t319)) else (none)) else (none)) else (some ((⟨#[]⟩ : ByteArray), t318, t319))) = some (r1, r2, r3) := H
        have A23 := Aside0.mk A230
        clear A230
        by_cases c24 : t317 = true
        · subst c24
          have H1 : (if 0 ≤ t306 then (if t306 ≤ (t318.size : Int) then (some (t318.extract 0 (t306 : Int).toNat, t318.extract (t306 : Int).toNat t318.size, t319)) else (none)) else (none)) = some (r1, r2, r3) := by rw [if_pos rfl] at H; exact H
          clear H
          have H := H1
          clear H1
          by_cases c25 : 0 ≤ t306
          · rw [if_pos c25] at H
            have c25b0 := eq_true c25
            have c25b1 : decide (0 ≤ t306) = true := decide_eq_true c25
            clear c25
            by_cases c26 : t306 ≤ (t318.size : Int)
            · rw [if_pos c26] at H
              have c26b0 := eq_true c26
              have c26b1 : decide (t306 ≤ (t318.size : Int)) = true := decide_eq_true c26
              clear c26
              have c27b0 := eq_true (of_decide_eq_true (by first | (with_reducible assumption) | assumption) : 0 ≤ t306)
              have c28b0 := eq_true (of_decide_eq_true (by first | (with_reducible assumption) | assumption) : t306 ≤ (t318.size : Int))
              simp only [Option.some.injEq, Prod.mk.injEq] at H
              obtain ⟨rfl, rfl, rfl⟩ := H
              go_wp2_with (first | ((with_reducible refine gate_callee (f := 79) rfl ?_); refine goesL_ (some 21) rfl rfl Try.func79 (by kernel_rfl) rfl #[.pointer (some ⟨g, 0, none⟩)] rfl (by (try simp only [List.map_toArray, List.map_cons, List.map_nil]); first | done | rfl | (simp only [List.length_drop, List.length_take]; rfl)) ?_; (with_reducible refine (pack_Reader_works.calls g x1000_2 x1001_2 true t318 t319 w0 _ ?side1 ?side2 A23.out).mono ?_); (case side1 => repeat (first | (with_reducible first | exact HI0.out | apply IsS127.alloc | apply IsS127.drewN | apply IsS127.drew | apply IsS127.set_0 | apply IsS127.set_1) | exact HI0.out)); (case side2 => repeat (first | (with_reducible first | exact HB.out | apply below_alloc | apply pw_below_drewN | apply below_drew1 | refine below_set ?_ (IsS127.ge HI0.out)) | exact HB.out)); rintro e w29 ⟨rfl, hi, hb, hk⟩; refine ⟨_, rfl, ?_⟩; have n0_ := Aside0.mk (KeepBut.trans (by repeat (first | (with_reducible first | exact HK.out | apply KeepBut.set_ | apply keep_drewN | apply keep_drew | apply keep_alloc) | exact HK.out)) hk (.inl rfl)); have n1_ := Aside0.mk (hb); have n2_ := Aside0.mk (hi); clear HK; clear HB; clear HI0; have HK := n0_; have HB := n1_; have HI0 := n2_; clear n0_ n1_ n2_; (try clear hb); (try clear hb2); (try clear hk); (try clear hi); obtain ⟨HGz30, hgz30⟩ := HI0.out; have hcz30_0 := cellS127_0 HGz30; have hcz30_1 := cellS127_1 HGz30; have hfz30_0 := blk_frozen HGz30 0; have hfz30_1 := blk_frozen HGz30 1; clear HGz30 hgz30))
              go_ret
              exact ⟨by first | rfl | (simp [errW_none, errW_some] <;> rfl) | (simp [*, errW_none, errW_some] <;> rfl), by repeat (first | (with_reducible first | exact HI0.out | apply IsS127.alloc | apply IsS127.drewN | apply IsS127.drew | apply IsS127.set_0 | apply IsS127.set_1) | exact HI0.out), by repeat (first | (with_reducible first | exact HB.out | apply below_alloc | apply pw_below_drewN | apply below_drew1 | refine below_set ?_ (IsS127.ge HI0.out)) | exact HB.out), by repeat (first | (with_reducible first | exact HK.out | apply KeepBut.set_ | apply keep_drewN | apply keep_drew | apply keep_alloc) | exact HK.out)⟩
            · rw [if_neg c26] at H
              exact absurd H (by simp)
          · rw [if_neg c25] at H
            exact absurd H (by simp)
        · replace c24 := Bool.eq_false_iff.mpr c24
          subst c24
          have H1 : (some ((⟨#[]⟩ : ByteArray), t318, t319)) = some (r1, r2, r3) := by rw [if_neg (show ¬ (false = true) by decide)] at H; exact H
          clear H
          have H := H1
          clear H1
          simp only [Option.some.injEq, Prod.mk.injEq] at H
          obtain ⟨rfl, rfl, rfl⟩ := H
          go_wp2_with (first | ((with_reducible refine gate_callee (f := 79) rfl ?_); refine goesL_ (some 21) rfl rfl Try.func79 (by kernel_rfl) rfl #[.pointer (some ⟨g, 0, none⟩)] rfl (by (try simp only [List.map_toArray, List.map_cons, List.map_nil]); first | done | rfl | (simp only [List.length_drop, List.length_take]; rfl)) ?_; (with_reducible refine (pack_Reader_works.calls g x1000_2 x1001_2 false t318 t319 w0 _ ?side1 ?side2 A23.out).mono ?_); (case side1 => repeat (first | (with_reducible first | exact HI0.out | apply IsS127.alloc | apply IsS127.drewN | apply IsS127.drew | apply IsS127.set_0 | apply IsS127.set_1) | exact HI0.out)); (case side2 => repeat (first | (with_reducible first | exact HB.out | apply below_alloc | apply pw_below_drewN | apply below_drew1 | refine below_set ?_ (IsS127.ge HI0.out)) | exact HB.out)); rintro e w31 ⟨rfl, hi, hb, hk⟩; refine ⟨_, rfl, ?_⟩; have n0_ := Aside0.mk (KeepBut.trans (by repeat (first | (with_reducible first | exact HK.out | apply KeepBut.set_ | apply keep_drewN | apply keep_drew | apply keep_alloc) | exact HK.out)) hk (.inl rfl)); have n1_ := Aside0.mk (hb); have n2_ := Aside0.mk (hi); clear HK; clear HB; clear HI0; have HK := n0_; have HB := n1_; have HI0 := n2_; clear n0_ n1_ n2_; (try clear hb); (try clear hb2); (try clear hk); (try clear hi)))
          go_ret
          exact ⟨by first | rfl | (simp [errW_none, errW_some] <;> rfl) | (simp [*, errW_none, errW_some] <;> rfl), by repeat (first | (with_reducible first | exact HI0.out | apply IsS127.alloc | apply IsS127.drewN | apply IsS127.drew | apply IsS127.set_0 | apply IsS127.set_1) | exact HI0.out), by repeat (first | (with_reducible first | exact HB.out | apply below_alloc | apply pw_below_drewN | apply below_drew1 | refine below_set ?_ (IsS127.ge HI0.out)) | exact HB.out), by repeat (first | (with_reducible first | exact HK.out | apply KeepBut.set_ | apply keep_drewN | apply keep_drew | apply keep_alloc) | exact HK.out)⟩
end Go.Proofs.Ytmfcbfgijimliaa.Q
end
section
namespace Go.Proofs.Ytmfcbfgijimliaa.Q
open Go.RowKit Go.Proofs.YtmfcbfgijimliaaW.PrintWords Go.Proofs.YtmfcbfgijimliaaW.PrintLast Go.Proofs.YtmfcbfgijimliaaW.PrintMore
attribute [local go_sem] max2_int min2_int max_two min_two max_three min_three max_four min_four   -- for this text's walks alone
set_option linter.unusedVariables false
set_option linter.unusedSimpArgs false
def record_volume.l0 : Nat → Int → ByteArray → Int → Int → Int → Int → List (S83) → Option (Int × Int × Int × (List (S83)) × ByteArray × Int)
  | 0, _, _, _, _, _, _, _ => none
  | k + 1, x11, x1000, x1001, x331000, x331001, x331002, x331003 => if x11 < 9 then ((pack_Reader_Number.f k x1000 x1001).bind fun bt331 => ((pack_Reader_Number.f k bt331.2.1 bt331.2.2).bind fun bt334 => (if x331003.length < 8796093022208 then (record_volume.l0 k (wrap64 (x11 + 1)) bt334.2.1 bt334.2.2 x331000 x331001 x331002 (x331003 ++ [(⟨bt331.1, bt334.1⟩ : S83)])) else (none)))) else (some (x331000, x331001, x331002, x331003, x1000, x1001))
def record_volume.f (k : Nat) (s0_0 : ByteArray) (s0_1 : Int) : Option (Int × Int × Int × (List (S83)) × ByteArray × Int) := (pack_Reader_Number.f k s0_0 s0_1).bind fun bt321 => ((pack_Reader_Number.f k bt321.2.1 bt321.2.2).bind fun bt324 => ((pack_Reader_Number.f k bt324.2.1 bt324.2.2).bind fun bt327 => (record_volume.l0 k 0 bt327.2.1 bt327.2.2 bt321.1 bt324.1 bt327.1 ([] : List (S83)))))
def record_volume.T4 : Bool × List (List Nat × List Nat) := (true, [([], []), ([0], [0]), ([], []), ([2], [2]), ([], []), ([4, 3], [4]), ([3, 5], [3, 5]), ([6], [6]), ([1, 7, 5], [1, 7]), ([0, 1, 2, 3, 4, 5, 6, 7, 8], []), ([9, 8, 8, 0, 1, 2, 3, 4, 5, 6, 7, 8], [8, 9])])
def record_volume.B4 : List Nat := [0, 1, 0, 4, 0, 28, 60, 124, 255, 511, 1023]
theorem record_volume.tab4 : rtab .any (opsOf Try.f64 4) = record_volume.T4 := by kernel_rfl
theorem record_volume.bits4 : waitsOk record_volume.T4.2 record_volume.B4 = true := by kernel_rfl
set_option maxHeartbeats 8000000 in
set_option maxRecDepth 100000 in
theorem record_volume.calls (k : Nat) (g : Nat) (s0_0 : ByteArray) (s0_1 : Int) (r1 : Int) (r2 : Int) (r3 : Int) (r4 : List (S83)) (r5 : ByteArray) (r6 : Int) (w0 w : World) (hI : IsS127 w0 w g s0_0 s0_1) (hB : Below w0.heap.size w0 w) (h : record_volume.f k s0_0 s0_1 = some (r1, r2, r3, r4, r5, r6)) :
    Calls Try.prog 64 #[.pointer (some ⟨g, 0, none⟩)] w fun e w' => ∃ v3_ : Value, e = .returned (.agg #[.int .i64 r1, .int .i64 r2, .int .i64 r3, v3_]) ∧ Kd.R k83 83 w' w.heap.size (fun _ => True) v3_ r4 ∧ IsS127 w0 w' g r5 r6 ∧ Below w0.heap.size w0 w' ∧ KeepBut w w' g none := by
  have hu29 := Try.underlying29
  have hu83 := Try.underlying83
  have HI0 := Aside0.mk hI
  have HK := Aside0.mk (KeepBut.refl w g none)
  have HL := Aside0.mk hB.size
  clear hI
  have HW0 := Aside0.mk hB.size
  have HB := Aside0.mk hB
  clear hB
  have H : ((pack_Reader_Number.f k s0_0 s0_1).bind fun bt321 => ((pack_Reader_Number.f k bt321.2.1 bt321.2.2).bind fun bt324 => ((pack_Reader_Number.f k bt324.2.1 bt324.2.2).bind fun bt327 => (record_volume.l0 k 0 bt327.2.1 bt327.2.2 bt321.1 bt324.1 bt327.1 ([] : List (S83)))))) = some (r1, r2, r3, r4, r5, r6) := h
  clear h
  replace H := Option.bind_eq_some_iff.mp H
  obtain ⟨⟨t321, t322, t323⟩, A20, H⟩ := H
  replace H : ((pack_Reader_Number.f k t322 t323).bind fun bt324 => ((pack_Reader_Number.f k bt324.2.1 bt324.2.2).bind fun bt327 => (record_volume.l0 k 0 bt327.2.1 bt327.2.2 t321 bt324.1 bt327.1 ([] : List (S83))))) = some (r1, r2, r3, r4, r5, r6) := H
  have A2 := Aside0.mk A20
  clear A20
  replace H := Option.bind_eq_some_iff.mp H
  obtain ⟨⟨t324, t325, t326⟩, A30, H⟩ := H
  replace H : ((pack_Reader_Number.f k t325 t326).bind fun bt327 => (record_volume.l0 k 0 bt327.2.1 bt327.2.2 t321 t324 bt327.1 ([] : List (S83)))) = some (r1, r2, r3, r4, r5, r6) := H
  have A3 := Aside0.mk A30
  clear A30
  replace H := Option.bind_eq_some_iff.mp H
  obtain ⟨⟨t327, t328, t329⟩, A40, H⟩ := H
  replace H : (record_volume.l0 k 0 t328 t329 t321 t324 t327 ([] : List (S83))) = some (r1, r2, r3, r4, r5, r6) := H
  have A4 := Aside0.mk A40
  clear A40
  have H' := Aside0.mk H
  clear H
  go_enter Try.func64, Try.ntmps64
  go_wp2_with (first | ((with_reducible refine gate_dst (N := 2) rfl ?_); refine box_event ?hg (N := 2) ?hd (cs := #[.int .i64 0, .int .i64 0, .int .i64 0, .slice none 0 0]) (t := 29) ?hr ?_; (case hd => rfl); (case hg => rfl); (case hr => first | (go_simp; done) | (go_simp; rfl)); intro gb320 hg w5 hbox hb; have n0_ := Aside0.mk (IsS127.below (by repeat (first | (with_reducible first | exact HI0.out | apply IsS127.alloc | apply IsS127.drewN | apply IsS127.drew | apply IsS127.set_0 | apply IsS127.set_1) | exact HI0.out)) hb); have n1_ := Aside0.mk (KeepBut.trans (by repeat (first | (with_reducible first | exact HK.out | apply KeepBut.set_ | apply keep_drewN | apply keep_drew | apply keep_alloc) | exact HK.out)) (KeepBut.of_below hb g none) (.inl rfl)); have n2_ := Aside0.mk (below_step (by repeat (first | (with_reducible first | exact HB.out | apply below_alloc | apply pw_below_drewN | apply below_drew1 | refine below_set ?_ (IsS127.ge HI0.out)) | exact HB.out)) hb); have n3_ := Aside0.mk (hbox); have n4_ := Aside0.mk ((by rw [hg]; exact (keep_size (w := w) (g := g) (row := none) (by repeat (first | (with_reducible first | exact HK.out | apply KeepBut.set_ | apply keep_drewN | apply keep_drew | apply keep_alloc) | exact HK.out))) : w.heap.size ≤ gb320)); have n5_ := Aside0.mk ((Nat.le_trans HW0.out (by rw [hg]; exact (keep_size (w := w) (g := g) (row := none) (by repeat (first | (with_reducible first | exact HK.out | apply KeepBut.set_ | apply keep_drewN | apply keep_drew | apply keep_alloc) | exact HK.out))) : w.heap.size ≤ gb320) : w0.heap.size ≤ gb320)); have n6_ := Aside0.mk ((by rw [hg]; exact Nat.ne_of_lt (IsS127.lt (show IsS127 w0 _ g s0_0 s0_1 from by repeat (first | (with_reducible first | exact HI0.out | apply IsS127.alloc | apply IsS127.drewN | apply IsS127.drew | apply IsS127.set_0 | apply IsS127.set_1) | exact HI0.out))) : g ≠ gb320)); have n7_ := Aside0.mk ((by rw [hg]; exact Nat.ne_of_gt (IsS127.lt (show IsS127 w0 _ g s0_0 s0_1 from by repeat (first | (with_reducible first | exact HI0.out | apply IsS127.alloc | apply IsS127.drewN | apply IsS127.drew | apply IsS127.set_0 | apply IsS127.set_1) | exact HI0.out))) : gb320 ≠ g)); clear HI0; clear HK; clear HB; have HI0 := n0_; have HK := n1_; have HB := n2_; have BK320 := n3_; have GW320 := n4_; have GE320 := n5_; have NB0_320 := n6_; have NB320_0 := n7_; clear n0_ n1_ n2_ n3_ n4_ n5_ n6_ n7_; clear hb hbox hg) | ((with_reducible refine gate_callee (f := 62) rfl ?_); refine goesL_ (some 5) rfl rfl Try.func62 (by kernel_rfl) rfl #[.pointer (some ⟨g, 0, none⟩)] rfl (by (try simp only [List.map_toArray, List.map_cons, List.map_nil]); first | done | rfl | (simp only [List.length_drop, List.length_take]; rfl)) ?_; (with_reducible refine (pack_Reader_Number.calls k g s0_0 s0_1 t321 t322 t323 w0 _ ?side1 ?side2 A2.out).mono ?_); (case side1 => repeat (first | (with_reducible first | exact HI0.out | apply IsS127.alloc | apply IsS127.drewN | apply IsS127.drew | apply IsS127.set_0 | apply IsS127.set_1 | refine IsS127.far ?_ NB0_320.out _) | exact HI0.out)); (case side2 => repeat (first | (with_reducible first | exact HB.out | apply below_alloc | apply pw_below_drewN | apply below_drew1 | refine below_set ?_ (IsS127.ge HI0.out) | refine below_set ?_ GE320.out) | exact HB.out)); rintro e w6 ⟨rfl, hi, hb, hk⟩; refine ⟨_, rfl, ?_⟩; have n0_ := Aside0.mk (KeepBut.blk hk (g' := gb320) (o := .cells #[.int .i64 0, .int .i64 0, .int .i64 0, .slice none 0 0] 29 (0, 0)) (by (with_reducible repeat (first | refine blk_drewN ?_ _ | refine blk_drew ?_ | refine blk_alloc ?_ _)); exact BK320.out) NB320_0.out (by simp)); have n1_ := Aside0.mk (KeepBut.trans (by repeat (first | (with_reducible first | exact HK.out | apply KeepBut.set_ | apply keep_drewN | apply keep_drew | apply keep_alloc | refine keep_far ?_ GW320.out _) | exact HK.out)) hk (.inl rfl)); have n2_ := Aside0.mk (hb); have n3_ := Aside0.mk (hi); clear BK320; clear HK; clear HB; clear HI0; have BK320 := n0_; have HK := n1_; have HB := n2_; have HI0 := n3_; clear n0_ n1_ n2_ n3_; (try clear hb); (try clear hb2); (try clear hk); (try clear hi)) | ((with_reducible refine gate_callee (f := 62) rfl ?_); refine goesL_ (some 7) rfl rfl Try.func62 (by kernel_rfl) rfl #[.pointer (some ⟨g, 0, none⟩)] rfl (by (try simp only [List.map_toArray, List.map_cons, List.map_nil]); first | done | rfl | (simp only [List.length_drop, List.length_take]; rfl)) ?_; (with_reducible refine (pack_Reader_Number.calls k g t322 t323 t324 t325 t326 w0 _ ?side1 ?side2 A3.out).mono ?_); (case side1 => repeat (first | (with_reducible first | exact HI0.out | apply IsS127.alloc | apply IsS127.drewN | apply IsS127.drew | apply IsS127.set_0 | apply IsS127.set_1 | refine IsS127.far ?_ NB0_320.out _) | exact HI0.out)); (case side2 => repeat (first | (with_reducible first | exact HB.out | apply below_alloc | apply pw_below_drewN | apply below_drew1 | refine below_set ?_ (IsS127.ge HI0.out) | refine below_set ?_ GE320.out) | exact HB.out)); rintro e w7 ⟨rfl, hi, hb, hk⟩; refine ⟨_, rfl, ?_⟩; have n0_ := Aside0.mk (KeepBut.blk hk (g' := gb320) (o := .cells #[.int .i64 0, .int .i64 0, .int .i64 0, .slice none 0 0] 29 (0, 0)) (by (with_reducible repeat (first | refine blk_drewN ?_ _ | refine blk_drew ?_ | refine blk_alloc ?_ _)); exact BK320.out) NB320_0.out (by simp)); have n1_ := Aside0.mk (KeepBut.trans (by repeat (first | (with_reducible first | exact HK.out | apply KeepBut.set_ | apply keep_drewN | apply keep_drew | apply keep_alloc | refine keep_far ?_ GW320.out _) | exact HK.out)) hk (.inl rfl)); have n2_ := Aside0.mk (hb); have n3_ := Aside0.mk (hi); clear BK320; clear HK; clear HB; clear HI0; have BK320 := n0_; have HK := n1_; have HB := n2_; have HI0 := n3_; clear n0_ n1_ n2_ n3_; (try clear hb); (try clear hb2); (try clear hk); (try clear hi)) | ((with_reducible refine gate_callee (f := 62) rfl ?_); refine goesL_ (some 9) rfl rfl Try.func62 (by kernel_rfl) rfl #[.pointer (some ⟨g, 0, none⟩)] rfl (by (try simp only [List.map_toArray, List.map_cons, List.map_nil]); first | done | rfl | (simp only [List.length_drop, List.length_take]; rfl)) ?_; (with_reducible refine (pack_Reader_Number.calls k g t325 t326 t327 t328 t329 w0 _ ?side1 ?side2 A4.out).mono ?_); (case side1 => repeat (first | (with_reducible first | exact HI0.out | apply IsS127.alloc | apply IsS127.drewN | apply IsS127.drew | apply IsS127.set_0 | apply IsS127.set_1 | refine IsS127.far ?_ NB0_320.out _) | exact HI0.out)); (case side2 => repeat (first | (with_reducible first | exact HB.out | apply below_alloc | apply pw_below_drewN | apply below_drew1 | refine below_set ?_ (IsS127.ge HI0.out) | refine below_set ?_ GE320.out) | exact HB.out)); rintro e w8 ⟨rfl, hi, hb, hk⟩; refine ⟨_, rfl, ?_⟩; have n0_ := Aside0.mk (KeepBut.blk hk (g' := gb320) (o := .cells #[.int .i64 0, .int .i64 0, .int .i64 0, .slice none 0 0] 29 (0, 0)) (by (with_reducible repeat (first | refine blk_drewN ?_ _ | refine blk_drew ?_ | refine blk_alloc ?_ _)); exact BK320.out) NB320_0.out (by simp)); have n1_ := Aside0.mk (KeepBut.trans (by repeat (first | (with_reducible first | exact HK.out | apply KeepBut.set_ | apply keep_drewN | apply keep_drew | apply keep_alloc | refine keep_far ?_ GW320.out _) | exact HK.out)) hk (.inl rfl)); have n2_ := Aside0.mk (hb); have n3_ := Aside0.mk (hi); clear BK320; clear HK; clear HB; clear HI0; have BK320 := n0_; have HK := n1_; have HB := n2_; have HI0 := n3_; clear n0_ n1_ n2_ n3_; (try clear hb); (try clear hb2); (try clear hk); (try clear hi)) | ((with_reducible refine gate_dst (N := 3) rfl ?_); refine box_event ?hg (N := 3) ?hd (cs := #[.int .i64 0, .int .i64 0, .int .i64 0, .slice none 0 0]) (t := 29) ?hr ?_; (case hd => rfl); (case hg => rfl); (case hr => first | (go_simp; done) | (go_simp; rfl)); intro gb330 hg w9 hbox hb; have n0_ := Aside0.mk (IsS127.below (by repeat (first | (with_reducible first | exact HI0.out | apply IsS127.alloc | apply IsS127.drewN | apply IsS127.drew | apply IsS127.set_0 | apply IsS127.set_1 | refine IsS127.far ?_ NB0_320.out _) | exact HI0.out)) hb); have n1_ := Aside0.mk (blk_below (g := gb320) (o := .cells #[.int .i64 0, .int .i64 0, .int .i64 0, .slice none 0 0] 29 (0, 0)) (by (with_reducible repeat (first | refine blk_drewN ?_ _ | refine blk_drew ?_ | refine blk_alloc ?_ _)); exact BK320.out) hb); have n2_ := Aside0.mk (KeepBut.trans (by repeat (first | (with_reducible first | exact HK.out | apply KeepBut.set_ | apply keep_drewN | apply keep_drew | apply keep_alloc | refine keep_far ?_ GW320.out _) | exact HK.out)) (KeepBut.of_below hb g none) (.inl rfl)); have n3_ := Aside0.mk (below_step (by repeat (first | (with_reducible first | exact HB.out | apply below_alloc | apply pw_below_drewN | apply below_drew1 | refine below_set ?_ (IsS127.ge HI0.out) | refine below_set ?_ GE320.out) | exact HB.out)) hb); have n4_ := Aside0.mk (hbox); have n5_ := Aside0.mk ((by rw [hg]; exact (keep_size (w := w) (g := g) (row := none) (by repeat (first | (with_reducible first | exact HK.out | apply KeepBut.set_ | apply keep_drewN | apply keep_drew | apply keep_alloc | refine keep_far ?_ GW320.out _) | exact HK.out))) : w.heap.size ≤ gb330)); have n6_ := Aside0.mk ((Nat.le_trans HW0.out (by rw [hg]; exact (keep_size (w := w) (g := g) (row := none) (by repeat (first | (with_reducible first | exact HK.out | apply KeepBut.set_ | apply keep_drewN | apply keep_drew | apply keep_alloc | refine keep_far ?_ GW320.out _) | exact HK.out))) : w.heap.size ≤ gb330) : w0.heap.size ≤ gb330)); have n7_ := Aside0.mk ((by rw [hg]; exact Nat.ne_of_lt (blk_lt (g := gb320) (o := .cells #[.int .i64 0, .int .i64 0, .int .i64 0, .slice none 0 0] 29 (0, 0)) (by (with_reducible repeat (first | refine blk_drewN ?_ _ | refine blk_drew ?_ | refine blk_alloc ?_ _)); exact BK320.out)) : gb320 ≠ gb330)); have n8_ := Aside0.mk ((by rw [hg]; exact Nat.ne_of_gt (blk_lt (g := gb320) (o := .cells #[.int .i64 0, .int .i64 0, .int .i64 0, .slice none 0 0] 29 (0, 0)) (by (with_reducible repeat (first | refine blk_drewN ?_ _ | refine blk_drew ?_ | refine blk_alloc ?_ _)); exact BK320.out)) : gb330 ≠ gb320)); have n9_ := Aside0.mk ((by rw [hg]; exact Nat.ne_of_lt (IsS127.lt (show IsS127 w0 _ g t328 t329 from by repeat (first | (with_reducible first | exact HI0.out | apply IsS127.alloc | apply IsS127.drewN | apply IsS127.drew | apply IsS127.set_0 | apply IsS127.set_1 | refine IsS127.far ?_ NB0_320.out _) | exact HI0.out))) : g ≠ gb330)); have n10_ := Aside0.mk ((by rw [hg]; exact Nat.ne_of_gt (IsS127.lt (show IsS127 w0 _ g t328 t329 from by repeat (first | (with_reducible first | exact HI0.out | apply IsS127.alloc | apply IsS127.drewN | apply IsS127.drew | apply IsS127.set_0 | apply IsS127.set_1 | refine IsS127.far ?_ NB0_320.out _) | exact HI0.out))) : gb330 ≠ g)); clear HI0; clear BK320; clear HK; clear HB; have HI0 := n0_; have BK320 := n1_; have HK := n2_; have HB := n3_; have BK330 := n4_; have GW330 := n5_; have GE330 := n6_; have NB320_330 := n7_; have NB330_320 := n8_; have NB0_330 := n9_; have NB330_0 := n10_; clear n0_ n1_ n2_ n3_ n4_ n5_ n6_ n7_ n8_ n9_ n10_; clear hb hbox hg; have hnb10 := NB330_320.out; have hnc10 := NB320_330.out; have hnb11 := NB330_0.out; have hnc11 := NB0_330.out; have hcz12_0 : w9.cell? ⟨gb330, 0, none⟩ = some (.int .i64 0) := (blk_cell BK330.out 0).trans rfl; have hcz12_1 : w9.cell? ⟨gb330, 1, none⟩ = some (.int .i64 0) := (blk_cell BK330.out 1).trans rfl; have hcz12_2 : w9.cell? ⟨gb330, 2, none⟩ = some (.int .i64 0) := (blk_cell BK330.out 2).trans rfl; have hcz12_3 : w9.cell? ⟨gb330, 3, none⟩ = some (.slice none 0 0) := (blk_cell BK330.out 3).trans rfl; have hfz12_0 := blk_frozen BK330.out 0; have hfz12_1 := blk_frozen BK330.out 1; have hfz12_2 := blk_frozen BK330.out 2; have hfz12_3 := blk_frozen BK330.out 3))
  go_loopg [11] k (fun kq v11 w' => ∃ (x11_1 : Int) (x1000_1 : ByteArray) (x1001_1 : Int) (x331003_1 : List (S83)) (u331003 : Value), v11 = .int .i64 x11_1 ∧ Aside0 (record_volume.l0 kq x11_1 x1000_1 x1001_1 t321 t324 t327 x331003_1 = some (r1, r2, r3, r4, r5, r6)) ∧ Aside0 (kq ≤ k) ∧ Aside0 (Kd.R k83 83 w' w.heap.size (fun _ => True) u331003 x331003_1) ∧ Aside0 (w'.heap[gb320]? = some (.cells #[.int .i64 0, .int .i64 0, .int .i64 0, (.slice none 0 0)] 29 (0, 0))) ∧ Aside0 (w'.heap[gb330]? = some (.cells #[.int .i64 t321, .int .i64 t324, .int .i64 t327, u331003] 29 (0, 0))) ∧ Aside0 (IsS127 w0 w' g x1000_1 x1001_1) ∧ Aside0 (KeepBut w w' g none) ∧ Aside0 (Below w0.heap.size w0 w'))
  case atStart => exact ⟨(0), (t328), (t329), (([] : List (S83))), (.slice none 0 0), (by first | rfl | (simp; done) | (simp [*]; done)), H', ⟨Nat.le_refl _⟩, ⟨by first | exact Kd.R_nil _ _ _ _ _ | exact Kd.N_nil _ _ _ _ _ | exact Kd.V_nil _ _ _ _ _ | exact Kd.Q_nil _ _ _ _ _ | exact Kd.S_nil _ _ _ _ _⟩, ⟨by (with_reducible repeat (first | refine blk_drewN ?_ _ | refine blk_drew ?_ | refine blk_alloc ?_ _)); refine blk_far ?_ NB320_330.out _; (with_reducible repeat (first | refine blk_drewN ?_ _ | refine blk_drew ?_ | refine blk_alloc ?_ _)); refine blk_far ?_ NB320_330.out _; (with_reducible repeat (first | refine blk_drewN ?_ _ | refine blk_drew ?_ | refine blk_alloc ?_ _)); refine blk_far ?_ NB320_330.out _; (with_reducible repeat (first | refine blk_drewN ?_ _ | refine blk_drew ?_ | refine blk_alloc ?_ _)); refine blk_far ?_ NB320_330.out _; (with_reducible repeat (first | refine blk_drewN ?_ _ | refine blk_drew ?_ | refine blk_alloc ?_ _)); exact BK320.out⟩, ⟨by (with_reducible repeat (first | refine blk_drewN ?_ _ | refine blk_drew ?_ | refine blk_alloc ?_ _)); refine blk_put (cs := #[.int .i64 t321, .int .i64 t324, .int .i64 t327, .slice none 0 0]) ?_ 3 _ rfl; (with_reducible repeat (first | refine blk_drewN ?_ _ | refine blk_drew ?_ | refine blk_alloc ?_ _)); refine blk_put (cs := #[.int .i64 t321, .int .i64 t324, .int .i64 0, .slice none 0 0]) ?_ 2 _ rfl; (with_reducible repeat (first | refine blk_drewN ?_ _ | refine blk_drew ?_ | refine blk_alloc ?_ _)); refine blk_put (cs := #[.int .i64 t321, .int .i64 0, .int .i64 0, .slice none 0 0]) ?_ 1 _ rfl; (with_reducible repeat (first | refine blk_drewN ?_ _ | refine blk_drew ?_ | refine blk_alloc ?_ _)); refine blk_put (cs := #[.int .i64 0, .int .i64 0, .int .i64 0, .slice none 0 0]) ?_ 0 _ rfl; (with_reducible repeat (first | refine blk_drewN ?_ _ | refine blk_drew ?_ | refine blk_alloc ?_ _)); exact BK330.out⟩, ⟨by repeat (first | (with_reducible first | exact HI0.out | apply IsS127.alloc | apply IsS127.drewN | apply IsS127.drew | apply IsS127.set_0 | apply IsS127.set_1 | refine IsS127.far ?_ NB0_320.out _ | refine IsS127.far ?_ NB0_330.out _) | exact HI0.out)⟩, ⟨by repeat (first | (with_reducible first | exact HK.out | apply KeepBut.set_ | apply keep_drewN | apply keep_drew | apply keep_alloc | refine keep_far ?_ GW320.out _ | refine keep_far ?_ GW330.out _) | exact HK.out)⟩, ⟨by repeat (first | (with_reducible first | exact HB.out | apply below_alloc | apply pw_below_drewN | apply below_drew1 | refine below_set ?_ (IsS127.ge HI0.out) | refine below_set ?_ GE320.out | refine below_set ?_ GE330.out) | exact HB.out)⟩⟩
  case round =>
    clear H'
    try clear c1
    try clear p2
    try clear c6
    try clear c10
    try clear c11
    try clear hcz12_0
    try clear hcz12_1
    try clear hcz12_2
    try clear hcz12_3
    try clear hfz12_0
    try clear hfz12_1
    try clear hfz12_2
    try clear hfz12_3
    obtain ⟨x11_1, x1000_1, x1001_1, x331003_1, u331003, rfl, HA, HK1, HO_331003, BK320, BK330, HI0, HK, HB⟩ := hrel
    cases gk with
    | zero => exact absurd HA.out (by simp [record_volume.l0])
    | succ k1 =>
      have H := HA.out
      clear HA
      simp only [record_volume.l0] at H
      by_cases c13 : x11_1 < 9
      · rw [if_pos c13] at H
        have c13b0 : decide (x11_1 < 9) = true := decide_eq_true c13
        clear c13
        replace H := Option.bind_eq_some_iff.mp H
        obtain ⟨⟨t331, t332, t333⟩, A140, H⟩ := H
        replace H : ((pack_Reader_Number.f k1 t332 t333).bind fun bt334 => (if x331003_1.length < 8796093022208 then (record_volume.l0 k1 (wrap64 (x11_1 + 1)) bt334.2.1 bt334.2.2 t321 t324 t327 (x331003_1 ++ [(⟨t331, bt334.1⟩ : S83)])) else (none))) = some (r1, r2, r3, r4, r5, r6) := H
        have A14 := Aside0.mk A140
        clear A140
        replace H := Option.bind_eq_some_iff.mp H
        obtain ⟨⟨t334, t335, t336⟩, A150, H⟩ := H
        replace H : (if x331003_1.length < 8796093022208 then (record_volume.l0 k1 (wrap64 (x11_1 + 1)) t335 t336 t321 t324 t327 (x331003_1 ++ [(⟨t331, t334⟩ : S83)])) else (none)) = some (r1, r2, r3, r4, r5, r6) := H
        have A15 := Aside0.mk A150
        clear A150
        by_cases c16 : x331003_1.length < 8796093022208
        · rw [if_pos c16] at H
          have LMc16 := Aside0.mk c16
          clear c16
          obtain ⟨y337, hy337⟩ : ∃ y_ : List (S83), y_ = (x331003_1 ++ [(⟨t331, t334⟩ : S83)]) := ⟨_, rfl⟩
          replace H : (record_volume.l0 k1 (wrap64 (x11_1 + 1)) t335 t336 t321 t324 t327 y337) = some (r1, r2, r3, r4, r5, r6) := by first | (rw [hy337]; with_reducible exact H) | (have H2_ := (Option.bind_some _ _).symm.trans H; rw [hy337]; with_reducible exact H2_) | (have H2_ := (Option.bind_some _ _).symm.trans H; with_reducible exact H2_) | with_reducible exact H | (rw [hy337]; exact H) | exact H
          have Ny337 := Aside0.mk hy337
          clear hy337
          have H' := Aside0.mk H
          clear H
          try go_wp2
          have n0_ := Aside0.mk (Kd.R_drew HO_331003.out)
          have n1_ := Aside0.mk (blk_drew BK320.out)
          have n2_ := Aside0.mk (blk_drew BK330.out)
          have n3_ := Aside0.mk (IsS127.drew HI0.out)
          have n4_ := Aside0.mk (keep_drew HK.out)
          have n5_ := Aside0.mk (below_drew1 HB.out)
          clear HO_331003
          clear BK320
          clear BK330
          clear HI0
          clear HK
          clear HB
          have HO_331003 := n0_
          have BK320 := n1_
          have BK330 := n2_
          have HI0 := n3_
          have HK := n4_
          have HB := n5_
          clear n0_ n1_ n2_ n3_ n4_ n5_
          refine start_ (n := 11) (S := fun w' => w'.cell? ⟨gb330, 0, none⟩ = some (.int .i64 t321) ∧ w'.cell? ⟨gb330, 1, none⟩ = some (.int .i64 t324) ∧ w'.cell? ⟨gb330, 2, none⟩ = some (.int .i64 t327) ∧ w'.cell? ⟨gb330, 3, none⟩ = some (u331003)) (ds := [10]) #[false, false, false, false, false, false, false, false, false, false, false] (by kernel_rfl) rfl rfl ⟨(blk_cell BK330.out 0).trans rfl, (blk_cell BK330.out 1).trans rfl, (blk_cell BK330.out 2).trans rfl, (blk_cell BK330.out 3).trans rfl⟩ (fun hHeld => ?_); refine with_tabW record_volume.tab4 record_volume.bits4 (fun HT_ HW_ => ?_)
          generalize wr.drew = w17 at HO_331003 BK320 BK330 HI0 HK HB hHeld ⊢
          refine pure_ (i := 0) (N := some 13) (v := ?_) (a' := ?_) #[true, false, false, false, false, false, false, false, false, false, false] rfl rfl (any_of HT_.out (by kernel_rfl)) (fun _ _ _ h => h) (Or.inl ⟨by rfl, ?_⟩) ?_ ?_
          rotate_left
          · intro w'
            go_simp
            with_reducible rfl
          rotate_left
          · simp only [Act.put, List.setIfInBounds_toArray, List.set_cons_zero, List.set_cons_succ, i64_w, i32_w]
            rfl
          refine pure_ (i := 2) (N := some 15) (v := ?_) (a' := ?_) #[true, false, true, false, false, false, false, false, false, false, false] rfl rfl (any_of HT_.out (by kernel_rfl)) (fun _ _ _ h => h) (Or.inl ⟨by rfl, ?_⟩) ?_ ?_
          rotate_left
          · intro w'
            go_simp
            with_reducible rfl
          rotate_left
          · simp only [Act.put, List.setIfInBounds_toArray, List.set_cons_zero, List.set_cons_succ, i64_w, i32_w]
            rfl
          refine pure_ (i := 4) (N := some 17) (v := ?_) (a' := ?_) #[true, false, true, false, true, false, false, false, false, false, false] rfl rfl (any_of HT_.out (by kernel_rfl)) (fun _ _ _ h => h) (Or.inl ⟨by rfl, ?_⟩) ?_ ?_
          rotate_left
          · intro w'
            go_simp
            with_reducible rfl
          rotate_left
          · simp only [Act.put, List.setIfInBounds_toArray, List.set_cons_zero, List.set_cons_succ, i64_w, i32_w]
            rfl
          refine take_ (i := 1) (N := some 14) (v := ?_) (a' := ?_) #[true, true, true, false, true, false, false, false, false, false, false] rfl rfl (take_ofW HT_.out HW_.out (by kernel_rfl)) (fun _ _ _ h => h) (Or.inl ⟨by rfl, ?_⟩) hHeld ?_ ?_
          rotate_left
          · rintro w' ⟨s0, s1, s2, s3⟩
            go_simp
            with_reducible rfl
          rotate_left
          · simp only [Act.put, List.setIfInBounds_toArray, List.set_cons_zero, List.set_cons_succ, i64_w, i32_w]
            rfl
          refine one_ (i := 3) (N := some 16) #[true, true, true, true, true, false, false, false, false, false, false] rfl rfl (one_of HT_.out (by kernel_rfl)) (by decide) (fun K hK => ?_)
          refine goes_ Try.func62 (by kernel_rfl) rfl #[.pointer (some ⟨g, 0, none⟩)] (by rfl) rfl rfl (by (try simp only [List.map_toArray, List.map_cons, List.map_nil]); first | done | rfl | (simp only [List.length_drop, List.length_take]; rfl)) ?_
          with_reducible refine (pack_Reader_Number.calls k1 g x1000_1 x1001_1 t331 t332 t333 w0 _ ?side1 ?side2 A14.out).mono ?_
          (case side1 => repeat (first | (with_reducible first | exact HI0.out | apply IsS127.alloc | apply IsS127.drewN | apply IsS127.drew | apply IsS127.set_0 | apply IsS127.set_1 | refine IsS127.far ?_ NB0_320.out _ | refine IsS127.far ?_ NB0_330.out _) | exact HI0.out))
          (case side2 => repeat (first | (with_reducible first | exact HB.out | apply below_alloc | apply pw_below_drewN | apply below_drew1 | refine below_set ?_ (IsS127.ge HI0.out) | refine below_set ?_ GE320.out | refine below_set ?_ GE330.out) | exact HB.out))
          rintro e w18 ⟨rfl, hi, hb, hk⟩
          refine ⟨_, rfl, ?_⟩
          have n0_ := Aside0.mk (Kd.R_mono (Kd.R_keep (IsS127.apart (show IsS127 w0 _ g x1000_1 x1001_1 from by repeat (first | (with_reducible first | exact HI0.out | apply IsS127.alloc | apply IsS127.drewN | apply IsS127.drew | apply IsS127.set_0 | apply IsS127.set_1 | refine IsS127.far ?_ NB0_320.out _ | refine IsS127.far ?_ NB0_330.out _) | exact HI0.out)) (by (with_reducible repeat (first | apply Kd.R_alloc | apply Kd.R_drewN | apply Kd.R_drew)); exact HO_331003.out) (by decide)) hk (fun _ h => h.2)) (fun _ h => h.1))
          have n1_ := Aside0.mk (KeepBut.blk hk (g' := gb320) (o := .cells #[.int .i64 0, .int .i64 0, .int .i64 0, .slice none 0 0] 29 (0, 0)) (by (with_reducible repeat (first | refine blk_drewN ?_ _ | refine blk_drew ?_ | refine blk_alloc ?_ _)); exact BK320.out) NB320_0.out (by simp))
          have n2_ := Aside0.mk (KeepBut.blk hk (g' := gb330) (o := .cells #[.int .i64 t321, .int .i64 t324, .int .i64 t327, u331003] 29 (0, 0)) (by (with_reducible repeat (first | refine blk_drewN ?_ _ | refine blk_drew ?_ | refine blk_alloc ?_ _)); exact BK330.out) NB330_0.out (by simp))
          have n3_ := Aside0.mk (KeepBut.trans (by repeat (first | (with_reducible first | exact HK.out | apply KeepBut.set_ | apply keep_drewN | apply keep_drew | apply keep_alloc | refine keep_far ?_ GW320.out _ | refine keep_far ?_ GW330.out _) | exact HK.out)) hk (.inl rfl))
          have n4_ := Aside0.mk (hb)
          have n5_ := Aside0.mk (hi)
          clear HO_331003
          clear BK320
          clear BK330
          clear HK
          clear HB
          clear HI0
          have HO_331003 := n0_
          have BK320 := n1_
          have BK330 := n2_
          have HK := n3_
          have HB := n4_
          have HI0 := n5_
          clear n0_ n1_ n2_ n3_ n4_ n5_
          (try clear hb)
          (try clear hb2)
          (try clear hk)
          (try clear hi)
          refine hK.out _ _ ⟨(blk_cell BK330.out 0).trans rfl, (blk_cell BK330.out 1).trans rfl, (blk_cell BK330.out 2).trans rfl, (blk_cell BK330.out 3).trans rfl⟩ (fun hHeld => ?_)
          clear hK K
          refine norm_ (a' := ?_) ?_ ?_
          rotate_left
          · show Act.put _ (some 16) _ = _
            simp only [Act.put, List.setIfInBounds_toArray, List.set_cons_zero, List.set_cons_succ, i64_w, i32_w]
            rfl
          refine one_ (i := 5) (N := some 18) #[true, true, true, true, true, true, false, false, false, false, false] rfl rfl (one_of HT_.out (by kernel_rfl)) (by decide) (fun K hK => ?_)
          refine goes_ Try.func62 (by kernel_rfl) rfl #[.pointer (some ⟨g, 0, none⟩)] (by rfl) rfl rfl (by (try simp only [List.map_toArray, List.map_cons, List.map_nil]); first | done | rfl | (simp only [List.length_drop, List.length_take]; rfl)) ?_
          with_reducible refine (pack_Reader_Number.calls k1 g t332 t333 t334 t335 t336 w0 _ ?side1 ?side2 A15.out).mono ?_
          (case side1 => repeat (first | (with_reducible first | exact HI0.out | apply IsS127.alloc | apply IsS127.drewN | apply IsS127.drew | apply IsS127.set_0 | apply IsS127.set_1 | refine IsS127.far ?_ NB0_320.out _ | refine IsS127.far ?_ NB0_330.out _) | exact HI0.out))
          (case side2 => repeat (first | (with_reducible first | exact HB.out | apply below_alloc | apply pw_below_drewN | apply below_drew1 | refine below_set ?_ (IsS127.ge HI0.out) | refine below_set ?_ GE320.out | refine below_set ?_ GE330.out) | exact HB.out))
          rintro e w19 ⟨rfl, hi, hb, hk⟩
          refine ⟨_, rfl, ?_⟩
          have n0_ := Aside0.mk (Kd.R_mono (Kd.R_keep (IsS127.apart (show IsS127 w0 _ g t332 t333 from by repeat (first | (with_reducible first | exact HI0.out | apply IsS127.alloc | apply IsS127.drewN | apply IsS127.drew | apply IsS127.set_0 | apply IsS127.set_1 | refine IsS127.far ?_ NB0_320.out _ | refine IsS127.far ?_ NB0_330.out _) | exact HI0.out)) (by (with_reducible repeat (first | apply Kd.R_alloc | apply Kd.R_drewN | apply Kd.R_drew)); exact HO_331003.out) (by decide)) hk (fun _ h => h.2)) (fun _ h => h.1))
          have n1_ := Aside0.mk (KeepBut.blk hk (g' := gb320) (o := .cells #[.int .i64 0, .int .i64 0, .int .i64 0, .slice none 0 0] 29 (0, 0)) (by (with_reducible repeat (first | refine blk_drewN ?_ _ | refine blk_drew ?_ | refine blk_alloc ?_ _)); exact BK320.out) NB320_0.out (by simp))
          have n2_ := Aside0.mk (KeepBut.blk hk (g' := gb330) (o := .cells #[.int .i64 t321, .int .i64 t324, .int .i64 t327, u331003] 29 (0, 0)) (by (with_reducible repeat (first | refine blk_drewN ?_ _ | refine blk_drew ?_ | refine blk_alloc ?_ _)); exact BK330.out) NB330_0.out (by simp))
          have n3_ := Aside0.mk (KeepBut.trans (by repeat (first | (with_reducible first | exact HK.out | apply KeepBut.set_ | apply keep_drewN | apply keep_drew | apply keep_alloc | refine keep_far ?_ GW320.out _ | refine keep_far ?_ GW330.out _) | exact HK.out)) hk (.inl rfl))
          have n4_ := Aside0.mk (hb)
          have n5_ := Aside0.mk (hi)
          clear HO_331003
          clear BK320
          clear BK330
          clear HK
          clear HB
          clear HI0
          have HO_331003 := n0_
          have BK320 := n1_
          have BK330 := n2_
          have HK := n3_
          have HB := n4_
          have HI0 := n5_
          clear n0_ n1_ n2_ n3_ n4_ n5_
          (try clear hb)
          (try clear hb2)
          (try clear hk)
          (try clear hi)
          refine hK.out _ _ ⟨(blk_cell BK330.out 0).trans rfl, (blk_cell BK330.out 1).trans rfl, (blk_cell BK330.out 2).trans rfl, (blk_cell BK330.out 3).trans rfl⟩ (fun hHeld => ?_)
          clear hK K
          refine norm_ (a' := ?_) ?_ ?_
          rotate_left
          · show Act.put _ (some 18) _ = _
            simp only [Act.put, List.setIfInBounds_toArray, List.set_cons_zero, List.set_cons_succ, i64_w, i32_w]
            rfl
          refine pure_ (i := 6) (N := some 19) (v := ?_) (a' := ?_) #[true, true, true, true, true, true, true, false, false, false, false] rfl rfl (any_of HT_.out (by kernel_rfl)) (fun _ _ _ h => h) (Or.inl ⟨by rfl, ?_⟩) ?_ ?_
          rotate_left
          · intro w'
            go_simp
            with_reducible rfl
          rotate_left
          · simp only [Act.put, List.setIfInBounds_toArray, List.set_cons_zero, List.set_cons_succ, i64_w, i32_w]
            rfl
          refine one_ (i := 7) (N := some 20) #[true, true, true, true, true, true, true, true, false, false, false] rfl rfl (one_of HT_.out (by kernel_rfl)) (by decide) (fun K hK => ?_)
          refine value_ (w1 := ?_) (v := ?_) (by rfl) rfl ?_ ?_
          rotate_left 2
          · go_simp
            constructor
            · rfl
            · rfl
          refine hK.out _ _ ⟨(blk_cell (blk_alloc BK330.out _) 0).trans rfl, (blk_cell (blk_alloc BK330.out _) 1).trans rfl, (blk_cell (blk_alloc BK330.out _) 2).trans rfl, (blk_cell (blk_alloc BK330.out _) 3).trans rfl⟩ (fun hHeld => ?_)
          clear hK K
          refine norm_ (a' := ?_) ?_ ?_
          rotate_left
          · show Act.put _ (some 20) _ = _
            simp only [Act.put, List.setIfInBounds_toArray, List.set_cons_zero, List.set_cons_succ, i64_w, i32_w]
            rfl
          refine one_ (i := 8) (N := some 21) #[true, true, true, true, true, true, true, true, true, false, false] rfl rfl (one_of HT_.out (by kernel_rfl)) (by decide) (fun K hK => ?_)
          refine Kd.R_append_step k83 w.heap.size (by rfl) (.tmp 14) (.tmp 20) 27 83 (.agg #[(.int .i64 0), (.int .i64 0)]) 16 rfl Try.underlying27 info83 rfl (by decide) (by omega) u331003 x331003_1 (⟨t331, t334⟩ : S83) [.int .i64 t331, .int .i64 t334] (fun _ => True) (fun _ => False) rfl rfl ?aP (fun _ hk => hk.elim) ?aF ?aO (Below.refl _ _) ?aS ?aL ?_
          (case aP => exact k83_mkM _ _ _ (⟨t331, t334⟩ : S83))
          (case aF => exact (fun _ _ => trivial))
          (case aO => exact (by (with_reducible repeat (first | apply Kd.R_alloc | apply Kd.R_drewN | apply Kd.R_drew)); exact HO_331003.out))
          (case aS => exact (keep_size (w := w) (g := g) (row := none) (by repeat (first | (with_reducible first | exact HK.out | apply KeepBut.set_ | apply keep_drewN | apply keep_drew | apply keep_alloc | refine keep_far ?_ GW320.out _ | refine keep_far ?_ GW330.out _) | exact HK.out))))
          (case aL => have := LMc16.out; omega)
          intro v338 w20 ho hb hg hat
          rw [← Ny337.out] at ho
          have n0_ := Aside0.mk (blk_grown (g := gb320) (o := .cells #[.int .i64 0, .int .i64 0, .int .i64 0, .slice none 0 0] 29 (0, 0)) (by (with_reducible repeat (first | refine blk_drewN ?_ _ | refine blk_drew ?_ | refine blk_alloc ?_ _)); exact BK320.out) hg (Kd.R_ne HO_331003.out BK320.out (by decide)))
          have n1_ := Aside0.mk (blk_grown (g := gb330) (o := .cells #[.int .i64 t321, .int .i64 t324, .int .i64 t327, u331003] 29 (0, 0)) (by (with_reducible repeat (first | refine blk_drewN ?_ _ | refine blk_drew ?_ | refine blk_alloc ?_ _)); exact BK330.out) hg (Kd.R_ne HO_331003.out BK330.out (by decide)))
          have n2_ := Aside0.mk (IsS127.grown (by repeat (first | (with_reducible first | exact HI0.out | apply IsS127.alloc | apply IsS127.drewN | apply IsS127.drew | apply IsS127.set_0 | apply IsS127.set_1 | refine IsS127.far ?_ NB0_320.out _ | refine IsS127.far ?_ NB0_330.out _) | exact HI0.out)) hg (IsS127.own_ne HI0.out HO_331003.out (by decide)))
          have n3_ := Aside0.mk (below_weaken (by repeat (first | (with_reducible first | exact HB.out | apply below_alloc | apply pw_below_drewN | apply below_drew1 | refine below_set ?_ (IsS127.ge HI0.out) | refine below_set ?_ GE320.out | refine below_set ?_ GE330.out) | exact HB.out)) HL.out hb)
          have n4_ := Aside0.mk (KeepBut.trans (by repeat (first | (with_reducible first | exact HK.out | apply KeepBut.set_ | apply keep_drewN | apply keep_drew | apply keep_alloc | refine keep_far ?_ GW320.out _ | refine keep_far ?_ GW330.out _) | exact HK.out)) (KeepBut.of_grown hg g) (Kd.R_base2 HO_331003.out))
          have n5_ := Aside0.mk (ho)
          clear BK320
          clear BK330
          clear HI0
          clear HB
          clear HK
          clear HO_331003
          have BK320 := n0_
          have BK330 := n1_
          have HI0 := n2_
          have HB := n3_
          have HK := n4_
          have HO339 := n5_
          clear n0_ n1_ n2_ n3_ n4_ n5_
          clear ho hb hg hat
          obtain ⟨Ao21, co21, eo21⟩ := Kd.R_slice HO339.out
          (first | subst eo21 | (injection eo21 with f1_ f2_ f3_; have f4_ := f1_.symm; have f5_ := f3_.symm; clear f1_ f2_ f3_; subst f4_; subst f5_))
          refine hK.out _ _ ⟨(blk_cell BK330.out 0).trans rfl, (blk_cell BK330.out 1).trans rfl, (blk_cell BK330.out 2).trans rfl, (blk_cell BK330.out 3).trans rfl⟩ (fun hHeld => ?_)
          clear hK K
          refine norm_ (a' := ?_) ?_ ?_
          rotate_left
          · show Act.put _ (some 21) _ = _
            simp only [Act.put, List.setIfInBounds_toArray, List.set_cons_zero, List.set_cons_succ, i64_w, i32_w]
            rfl
          refine pure_ (i := 9) (N := some 22) (v := ?_) (a' := ?_) #[true, true, true, true, true, true, true, true, true, true, false] rfl rfl (any_of HT_.out (by kernel_rfl)) (fun _ _ _ h => h) (Or.inl ⟨by rfl, ?_⟩) ?_ ?_
          rotate_left
          · intro w'
            go_simp
            with_reducible rfl
          rotate_left
          · simp only [Act.put, List.setIfInBounds_toArray, List.set_cons_zero, List.set_cons_succ, i64_w, i32_w]
            rfl
          refine last_ (i := 10) (N := none) #[true, true, true, true, true, true, true, true, true, true, true] rfl rfl (one_of HT_.out (by kernel_rfl)) (by decide) (fun K hK => ?_)
          have hs22 : w20.cell? ⟨gb330, 3, none⟩ = some (u331003) := (blk_cell BK330.out 3).trans rfl
          have hfs22 := blk_frozen BK330.out 3
          have hns22_0 := NB320_330.out
          have hms22_0 := NB330_320.out
          refine skip_ (w1 := ?_) (by rfl) rfl ?_ ?_
          rotate_left
          · go_simp
            rfl
          refine hK.out _ _ ?_
          clear hK K
          refine done_ (done_of HT_.out (by kernel_rfl)) ?_
          try go_wp2
          go_roundg k1
          case measure => have := HK1.out; omega
          case rel => exact ⟨(wrap64 (x11_1 + 1)), (t335), (t336), (y337), (.slice Ao21 y337.length co21), (by first | rfl | (simp; done) | (simp [*]; done)), H', ⟨by have := HK1.out; omega⟩, ⟨by (with_reducible repeat (first | apply Kd.R_alloc | apply Kd.R_drewN | apply Kd.R_drew)); exact Kd.R_mono (Kd.R_far (p := ⟨gb330, 3, none⟩) (Kd.R_types HO339.out BK330.out (by decide)) (fun _ hk => hk.2) (.slice Ao21 y337.length co21)) (fun _ hk => trivial)⟩, ⟨by (with_reducible repeat (first | refine blk_drewN ?_ _ | refine blk_drew ?_ | refine blk_alloc ?_ _)); refine blk_far ?_ NB320_330.out _; (with_reducible repeat (first | refine blk_drewN ?_ _ | refine blk_drew ?_ | refine blk_alloc ?_ _)); exact BK320.out⟩, ⟨by (with_reducible repeat (first | refine blk_drewN ?_ _ | refine blk_drew ?_ | refine blk_alloc ?_ _)); refine blk_put (cs := #[.int .i64 t321, .int .i64 t324, .int .i64 t327, u331003]) ?_ 3 _ rfl; (with_reducible repeat (first | refine blk_drewN ?_ _ | refine blk_drew ?_ | refine blk_alloc ?_ _)); exact BK330.out⟩, ⟨by repeat (first | (with_reducible first | exact HI0.out | apply IsS127.alloc | apply IsS127.drewN | apply IsS127.drew | apply IsS127.set_0 | apply IsS127.set_1 | refine IsS127.far ?_ NB0_320.out _ | refine IsS127.far ?_ NB0_330.out _) | exact HI0.out)⟩, ⟨by repeat (first | (with_reducible first | exact HK.out | apply KeepBut.set_ | apply keep_drewN | apply keep_drew | apply keep_alloc | refine keep_far ?_ GW320.out _ | refine keep_far ?_ GW330.out _) | exact HK.out)⟩, ⟨by repeat (first | (with_reducible first | exact HB.out | apply below_alloc | apply pw_below_drewN | apply below_drew1 | refine below_set ?_ (IsS127.ge HI0.out) | refine below_set ?_ GE320.out | refine below_set ?_ GE330.out) | exact HB.out)⟩⟩
        · rw [if_neg c16] at H
          exact absurd H (by simp)
      · rw [if_neg c13] at H
        have c13b0 : decide (x11_1 < 9) = false := decide_eq_false c13
        clear c13
        simp only [Option.some.injEq, Prod.mk.injEq] at H
        obtain ⟨rfl, rfl, rfl, rfl, rfl, rfl⟩ := H
        have hnb23 := NB330_320.out
        have hnc23 := NB320_330.out
        have hnb24 := NB330_0.out
        have hnc24 := NB0_330.out
        have hcz25_0 : wr.cell? ⟨gb330, 0, none⟩ = some (.int .i64 t321) := (blk_cell BK330.out 0).trans rfl
        have hcz25_1 : wr.cell? ⟨gb330, 1, none⟩ = some (.int .i64 t324) := (blk_cell BK330.out 1).trans rfl
        have hcz25_2 : wr.cell? ⟨gb330, 2, none⟩ = some (.int .i64 t327) := (blk_cell BK330.out 2).trans rfl
        have hcz25_3 : wr.cell? ⟨gb330, 3, none⟩ = some (u331003) := (blk_cell BK330.out 3).trans rfl
        have hfz25_0 := blk_frozen BK330.out 0
        have hfz25_1 := blk_frozen BK330.out 1
        have hfz25_2 := blk_frozen BK330.out 2
        have hfz25_3 := blk_frozen BK330.out 3
        have hnb26 := NB320_0.out
        have hnc26 := NB0_320.out
        have hcz27_0 : wr.cell? ⟨gb320, 0, none⟩ = some (.int .i64 0) := (blk_cell BK320.out 0).trans rfl
        have hcz27_1 : wr.cell? ⟨gb320, 1, none⟩ = some (.int .i64 0) := (blk_cell BK320.out 1).trans rfl
        have hcz27_2 : wr.cell? ⟨gb320, 2, none⟩ = some (.int .i64 0) := (blk_cell BK320.out 2).trans rfl
        have hcz27_3 : wr.cell? ⟨gb320, 3, none⟩ = some (.slice none 0 0) := (blk_cell BK320.out 3).trans rfl
        have hfz27_0 := blk_frozen BK320.out 0
        have hfz27_1 := blk_frozen BK320.out 1
        have hfz27_2 := blk_frozen BK320.out 2
        have hfz27_3 := blk_frozen BK320.out 3
        obtain ⟨Ao28, co28, eo28⟩ := Kd.R_slice HO_331003.out
        subst eo28
        go_wp2
        refine bodyPost_ret (results_cell_row rfl _ _ gb320 29 #[.int .i64 t321, .int .i64 t324, .int .i64 t327, .slice Ao28 x331003_1.length co28] (0, 0) _ rfl (by (with_reducible repeat (first | refine blk_drewN ?_ _ | refine blk_drew ?_ | refine blk_alloc ?_ _)); refine blk_put (cs := #[.int .i64 t321, .int .i64 t324, .int .i64 t327, .slice none 0 0]) ?_ 3 _ rfl; (with_reducible repeat (first | refine blk_drewN ?_ _ | refine blk_drew ?_ | refine blk_alloc ?_ _)); refine blk_put (cs := #[.int .i64 t321, .int .i64 t324, .int .i64 0, .slice none 0 0]) ?_ 2 _ rfl; (with_reducible repeat (first | refine blk_drewN ?_ _ | refine blk_drew ?_ | refine blk_alloc ?_ _)); refine blk_put (cs := #[.int .i64 t321, .int .i64 0, .int .i64 0, .slice none 0 0]) ?_ 1 _ rfl; (with_reducible repeat (first | refine blk_drewN ?_ _ | refine blk_drew ?_ | refine blk_alloc ?_ _)); refine blk_put (cs := #[.int .i64 0, .int .i64 0, .int .i64 0, .slice none 0 0]) ?_ 0 _ rfl; (with_reducible repeat (first | refine blk_drewN ?_ _ | refine blk_drew ?_ | refine blk_alloc ?_ _)); exact BK320.out) Try.underlying29 rfl (by kernel_rfl)) rfl ?_
        exact ⟨_, by first | rfl | (simp [errW_none, errW_some] <;> rfl) | (simp [*, errW_none, errW_some] <;> rfl), by (with_reducible repeat (first | apply Kd.R_alloc | apply Kd.R_drewN | apply Kd.R_drew)); exact Kd.R_mono (Kd.R_far (p := ⟨gb320, 3, none⟩) (Kd.R_far (p := ⟨gb320, 2, none⟩) (Kd.R_far (p := ⟨gb320, 1, none⟩) (Kd.R_far (p := ⟨gb320, 0, none⟩) (Kd.R_types HO_331003.out BK320.out (by decide)) (fun _ hk => hk.2) (.int .i64 t321)) (fun _ hk => hk.2) (.int .i64 t324)) (fun _ hk => hk.2) (.int .i64 t327)) (fun _ hk => hk.2) (.slice Ao28 x331003_1.length co28)) (fun _ hk => trivial), by repeat (first | (with_reducible first | exact HI0.out | apply IsS127.alloc | apply IsS127.drewN | apply IsS127.drew | apply IsS127.set_0 | apply IsS127.set_1 | refine IsS127.far ?_ NB0_320.out _ | refine IsS127.far ?_ NB0_330.out _) | exact HI0.out), by repeat (first | (with_reducible first | exact HB.out | apply below_alloc | apply pw_below_drewN | apply below_drew1 | refine below_set ?_ (IsS127.ge HI0.out) | refine below_set ?_ GE320.out | refine below_set ?_ GE330.out) | exact HB.out), by repeat (first | (with_reducible first | exact HK.out | apply KeepBut.set_ | apply keep_drewN | apply keep_drew | apply keep_alloc | refine keep_far ?_ GW320.out _ | refine keep_far ?_ GW330.out _) | exact HK.out)⟩
def pack_Reader_Rest.f (s0_0 : ByteArray) (s0_1 : Int) : Option (ByteArray × ByteArray × Int) := (pack_Reader_works.f s0_0 s0_1).bind fun bt340 => (if bt340.1 = true then (some (bt340.2.1, (⟨#[]⟩ : ByteArray), bt340.2.2)) else (some ((⟨#[]⟩ : ByteArray), bt340.2.1, bt340.2.2)))
set_option maxHeartbeats 8000000 in
set_option maxRecDepth 100000 in
theorem pack_Reader_Rest.calls (g : Nat) (s0_0 : ByteArray) (s0_1 : Int) (r1 : ByteArray) (r2 : ByteArray) (r3 : Int) (w0 w : World) (hI : IsS127 w0 w g s0_0 s0_1) (hB : Below w0.heap.size w0 w) (h : pack_Reader_Rest.f s0_0 s0_1 = some (r1, r2, r3)) :
    Calls Try.prog 65 #[.pointer (some ⟨g, 0, none⟩)] w fun e w' => e = .returned (.string r1) ∧ IsS127 w0 w' g r2 r3 ∧ Below w0.heap.size w0 w' ∧ KeepBut w w' g none := by
  have HI0 := Aside0.mk hI
  have HK := Aside0.mk (KeepBut.refl w g none)
  have HL := Aside0.mk hB.size
  clear hI
  have HW0 := Aside0.mk hB.size
  have HB := Aside0.mk hB
  clear hB
  have H : ((pack_Reader_works.f s0_0 s0_1).bind fun bt340 => (if bt340.1 = true then (some (bt340.2.1, (⟨#[]⟩ : ByteArray), bt340.2.2)) else (some ((⟨#[]⟩ : ByteArray), bt340.2.1, bt340.2.2)))) = some (r1, r2, r3) := h
  clear h
  replace H := Option.bind_eq_some_iff.mp H
  obtain ⟨⟨t340, t341, t342⟩, A20, H⟩ := H
  replace H : (if t340 = true then (some (t341, (⟨#[]⟩ : ByteArray), t342)) else (some ((⟨#[]⟩ : ByteArray), t341, t342))) = some (r1, r2, r3) := H
  have A2 := Aside0.mk A20
  clear A20
  by_cases c3 : t340 = true
  · subst c3
    have H1 : (some (t341, (⟨#[]⟩ : ByteArray), t342)) = some (r1, r2, r3) := by rw [if_pos rfl] at H; exact H
    clear H
    have H := H1
    clear H1
    simp only [Option.some.injEq, Prod.mk.injEq] at H
    obtain ⟨rfl, rfl, rfl⟩ := H
    go_enter Try.func65, Try.ntmps65
    go_wp2_with (first | ((with_reducible refine gate_callee (f := 79) rfl ?_); refine goesL_ (some 5) rfl rfl Try.func79 (by kernel_rfl) rfl #[.pointer (some ⟨g, 0, none⟩)] rfl (by (try simp only [List.map_toArray, List.map_cons, List.map_nil]); first | done | rfl | (simp only [List.length_drop, List.length_take]; rfl)) ?_; (with_reducible refine (pack_Reader_works.calls g s0_0 s0_1 true t341 t342 w0 _ ?side1 ?side2 A2.out).mono ?_); (case side1 => repeat (first | (with_reducible first | exact HI0.out | apply IsS127.alloc | apply IsS127.drewN | apply IsS127.drew | apply IsS127.set_0 | apply IsS127.set_1) | exact HI0.out)); (case side2 => repeat (first | (with_reducible first | exact HB.out | apply below_alloc | apply pw_below_drewN | apply below_drew1 | refine below_set ?_ (IsS127.ge HI0.out)) | exact HB.out)); rintro e w4 ⟨rfl, hi, hb, hk⟩; refine ⟨_, rfl, ?_⟩; have n0_ := Aside0.mk (KeepBut.trans (by repeat (first | (with_reducible first | exact HK.out | apply KeepBut.set_ | apply keep_drewN | apply keep_drew | apply keep_alloc) | exact HK.out)) hk (.inl rfl)); have n1_ := Aside0.mk (hb); have n2_ := Aside0.mk (hi); clear HK; clear HB; clear HI0; have HK := n0_; have HB := n1_; have HI0 := n2_; clear n0_ n1_ n2_; (try clear hb); (try clear hb2); (try clear hk); (try clear hi); obtain ⟨HGz5, hgz5⟩ := HI0.out; have hcz5_0 := cellS127_0 HGz5; have hcz5_1 := cellS127_1 HGz5; have hfz5_0 := blk_frozen HGz5 0; have hfz5_1 := blk_frozen HGz5 1; clear HGz5 hgz5))
    go_ret
    exact ⟨by first | rfl | (simp [errW_none, errW_some] <;> rfl) | (simp [*, errW_none, errW_some] <;> rfl), by repeat (first | (with_reducible first | exact HI0.out | apply IsS127.alloc | apply IsS127.drewN | apply IsS127.drew | apply IsS127.set_0 | apply IsS127.set_1) | exact HI0.out), by repeat (first | (with_reducible first | exact HB.out | apply below_alloc | apply pw_below_drewN | apply below_drew1 | refine below_set ?_ (IsS127.ge HI0.out)) | exact HB.out), by repeat (first | (with_reducible first | exact HK.out | apply KeepBut.set_ | apply keep_drewN | apply keep_drew | apply keep_alloc) | exact HK.out)⟩
  · replace c3 := Bool.eq_false_iff.mpr c3
    subst c3
    have H1 : (some ((⟨#[]⟩ : ByteArray), t341, t342)) = some (r1, r2, r3) := by rw [if_neg (show ¬ (false = true) by decide)] at H; exact H
    clear H
    have H := H1
    clear H1
    simp only [Option.some.injEq, Prod.mk.injEq] at H
    obtain ⟨rfl, rfl, rfl⟩ := H
    go_enter Try.func65, Try.ntmps65
    go_wp2_with (first | ((with_reducible refine gate_callee (f := 79) rfl ?_); refine goesL_ (some 5) rfl rfl Try.func79 (by kernel_rfl) rfl #[.pointer (some ⟨g, 0, none⟩)] rfl (by (try simp only [List.map_toArray, List.map_cons, List.map_nil]); first | done | rfl | (simp only [List.length_drop, List.length_take]; rfl)) ?_; (with_reducible refine (pack_Reader_works.calls g s0_0 s0_1 false t341 t342 w0 _ ?side1 ?side2 A2.out).mono ?_); (case side1 => repeat (first | (with_reducible first | exact HI0.out | apply IsS127.alloc | apply IsS127.drewN | apply IsS127.drew | apply IsS127.set_0 | apply IsS127.set_1) | exact HI0.out)); (case side2 => repeat (first | (with_reducible first | exact HB.out | apply below_alloc | apply pw_below_drewN | apply below_drew1 | refine below_set ?_ (IsS127.ge HI0.out)) | exact HB.out)); rintro e w6 ⟨rfl, hi, hb, hk⟩; refine ⟨_, rfl, ?_⟩; have n0_ := Aside0.mk (KeepBut.trans (by repeat (first | (with_reducible first | exact HK.out | apply KeepBut.set_ | apply keep_drewN | apply keep_drew | apply keep_alloc) | exact HK.out)) hk (.inl rfl)); have n1_ := Aside0.mk (hb); have n2_ := Aside0.mk (hi); clear HK; clear HB; clear HI0; have HK := n0_; have HB := n1_; have HI0 := n2_; clear n0_ n1_ n2_; (try clear hb); (try clear hb2); (try clear hk); (try clear hi)))
    go_ret
    exact ⟨by first | rfl | (simp [errW_none, errW_some] <;> rfl) | (simp [*, errW_none, errW_some] <;> rfl), by repeat (first | (with_reducible first | exact HI0.out | apply IsS127.alloc | apply IsS127.drewN | apply IsS127.drew | apply IsS127.set_0 | apply IsS127.set_1) | exact HI0.out), by repeat (first | (with_reducible first | exact HB.out | apply below_alloc | apply pw_below_drewN | apply below_drew1 | refine below_set ?_ (IsS127.ge HI0.out)) | exact HB.out), by repeat (first | (with_reducible first | exact HK.out | apply KeepBut.set_ | apply keep_drewN | apply keep_drew | apply keep_alloc) | exact HK.out)⟩
def pack_Reader_End.f (s0_0 : ByteArray) (s0_1 : Int) : Option (Int × ByteArray × Int) := if s0_0.toList = ([] : List UInt8) then (some (s0_1, s0_0, s0_1)) else ((pack_Reader_wrong.f s0_0 s0_1 4).bind fun bt343 => (some (bt343.2, bt343.1, bt343.2)))
set_option maxHeartbeats 8000000 in
set_option maxRecDepth 100000 in
theorem pack_Reader_End.calls (g : Nat) (s0_0 : ByteArray) (s0_1 : Int) (r1 : Int) (r2 : ByteArray) (r3 : Int) (w0 w : World) (hI : IsS127 w0 w g s0_0 s0_1) (hB : Below w0.heap.size w0 w) (h : pack_Reader_End.f s0_0 s0_1 = some (r1, r2, r3)) :
    Calls Try.prog 66 #[.pointer (some ⟨g, 0, none⟩)] w fun e w' => e = .returned (.int .i64 r1) ∧ IsS127 w0 w' g r2 r3 ∧ Below w0.heap.size w0 w' ∧ KeepBut w w' g none := by
  have HI0 := Aside0.mk hI
  have HK := Aside0.mk (KeepBut.refl w g none)
  have HL := Aside0.mk hB.size
  clear hI
  have HW0 := Aside0.mk hB.size
  have HB := Aside0.mk hB
  clear hB
  have H : (if s0_0.toList = ([] : List UInt8) then (some (s0_1, s0_0, s0_1)) else ((pack_Reader_wrong.f s0_0 s0_1 4).bind fun bt343 => (some (bt343.2, bt343.1, bt343.2)))) = some (r1, r2, r3) := h
  clear h
  by_cases c2 : s0_0.toList = ([] : List UInt8)
  · rw [if_pos c2] at H
    have c2b0 : (s0_0.toList == ([] : List UInt8)) = true := beq_iff_eq.mpr c2
    have c2b1 : (s0_0.toList != ([] : List UInt8)) = false := bne_eq_false_iff_eq.mpr c2
    clear c2
    simp only [Option.some.injEq, Prod.mk.injEq] at H
    obtain ⟨rfl, rfl, rfl⟩ := H
    obtain ⟨HGz3, hgz3⟩ := HI0.out
    have hcz3_0 := cellS127_0 HGz3
    have hcz3_1 := cellS127_1 HGz3
    have hfz3_0 := blk_frozen HGz3 0
    have hfz3_1 := blk_frozen HGz3 1
    clear HGz3 hgz3
    go_enter Try.func66, Try.ntmps66
    go_wp2
    go_ret
    exact ⟨by first | rfl | (simp [errW_none, errW_some] <;> rfl) | (simp [*, errW_none, errW_some] <;> rfl), by repeat (first | (with_reducible first | exact HI0.out | apply IsS127.alloc | apply IsS127.drewN | apply IsS127.drew | apply IsS127.set_0 | apply IsS127.set_1) | exact HI0.out), by repeat (first | (with_reducible first | exact HB.out | apply below_alloc | apply pw_below_drewN | apply below_drew1 | refine below_set ?_ (IsS127.ge HI0.out)) | exact HB.out), by repeat (first | (with_reducible first | exact HK.out | apply KeepBut.set_ | apply keep_drewN | apply keep_drew | apply keep_alloc) | exact HK.out)⟩
  · rw [if_neg c2] at H
    have c2b0 : (s0_0.toList == ([] : List UInt8)) = false := beq_eq_false_iff_ne.mpr c2
    have c2b1 : (s0_0.toList != ([] : List UInt8)) = true := bne_iff_ne.mpr c2
    replace H := Option.bind_eq_some_iff.mp H
    obtain ⟨⟨t343, t344⟩, A40, H⟩ := H
    replace H : (some (t344, t343, t344)) = some (r1, r2, r3) := H
    have A4 := Aside0.mk A40
    clear A40
    simp only [Option.some.injEq, Prod.mk.injEq] at H
    obtain ⟨rfl, rfl, rfl⟩ := H
    obtain ⟨HGz5, hgz5⟩ := HI0.out
    have hcz5_0 := cellS127_0 HGz5
    have hcz5_1 := cellS127_1 HGz5
    have hfz5_0 := blk_frozen HGz5 0
    have hfz5_1 := blk_frozen HGz5 1
    clear HGz5 hgz5
    go_enter Try.func66, Try.ntmps66
    go_wp2_with (first | ((with_reducible refine gate_callee (f := 80) rfl ?_); refine goesL_ (some 11) rfl rfl Try.func80 (by kernel_rfl) rfl #[.pointer (some ⟨g, 0, none⟩), .int .i64 4] rfl (by (try simp only [List.map_toArray, List.map_cons, List.map_nil]); first | done | rfl | (simp only [List.length_drop, List.length_take]; rfl)) ?_; (with_reducible refine (pack_Reader_wrong.calls g s0_0 s0_1 4 t343 t344 w0 _ ?side1 ?side2 A4.out).mono ?_); (case side1 => repeat (first | (with_reducible first | exact HI0.out | apply IsS127.alloc | apply IsS127.drewN | apply IsS127.drew | apply IsS127.set_0 | apply IsS127.set_1) | exact HI0.out)); (case side2 => repeat (first | (with_reducible first | exact HB.out | apply below_alloc | apply pw_below_drewN | apply below_drew1 | refine below_set ?_ (IsS127.ge HI0.out)) | exact HB.out)); rintro e w6 ⟨rfl, hi, hb, hk⟩; refine ⟨_, rfl, ?_⟩; have n0_ := Aside0.mk (KeepBut.trans (by repeat (first | (with_reducible first | exact HK.out | apply KeepBut.set_ | apply keep_drewN | apply keep_drew | apply keep_alloc) | exact HK.out)) hk (.inl rfl)); have n1_ := Aside0.mk (hb); have n2_ := Aside0.mk (hi); clear HK; clear HB; clear HI0; have HK := n0_; have HB := n1_; have HI0 := n2_; clear n0_ n1_ n2_; (try clear hb); (try clear hb2); (try clear hk); (try clear hi); obtain ⟨HGz7, hgz7⟩ := HI0.out; have hcz7_0 := cellS127_0 HGz7; have hcz7_1 := cellS127_1 HGz7; have hfz7_0 := blk_frozen HGz7 0; have hfz7_1 := blk_frozen HGz7 1; clear HGz7 hgz7))
    go_ret
    exact ⟨by first | rfl | (simp [errW_none, errW_some] <;> rfl) | (simp [*, errW_none, errW_some] <;> rfl), by repeat (first | (with_reducible first | exact HI0.out | apply IsS127.alloc | apply IsS127.drewN | apply IsS127.drew | apply IsS127.set_0 | apply IsS127.set_1) | exact HI0.out), by repeat (first | (with_reducible first | exact HB.out | apply below_alloc | apply pw_below_drewN | apply below_drew1 | refine below_set ?_ (IsS127.ge HI0.out)) | exact HB.out), by repeat (first | (with_reducible first | exact HK.out | apply KeepBut.set_ | apply keep_drewN | apply keep_drew | apply keep_alloc) | exact HK.out)⟩
end Go.Proofs.Ytmfcbfgijimliaa.Q
end
section
namespace Go.Proofs.Ytmfcbfgijimliaa
open Go.RowKit Q Go.Proofs.YtmfcbfgijimliaaW.PrintWords Go.Proofs.YtmfcbfgijimliaaW.PrintLast Go.Proofs.YtmfcbfgijimliaaW.PrintMore
theorem or128 : ∀ a : Fin 256, Go.bits .or .u8 (a.val : Int) 128 = ((128 + a.val % 128 : Nat) : Int) := by decide +kernel
theorem or128' (n : Nat) : Go.bits .or .u8 ((n : Int) % 256) 128 = ((128 + n % 128 : Nat) : Int) := by
  have h := or128 ⟨n % 256, Nat.mod_lt _ (by omega)⟩
  simp only at h
  rw [show ((n % 256 : Nat) : Int) = (n : Int) % 256 by omega] at h
  rw [h]
  congr 2
  omega
theorem wraps_i64 (n : Int) (h₀ : 0 ≤ n) (h₁ : n < 2 ^ 63) : IntKind.i64.wrap n = n := by rw [IntKind.wrap_i64]; omega
theorem bits_or_comm (a b : Nat) (ha : a < 2 ^ 63) (hb : b < 2 ^ 63) : Go.bits .or .i64 (a : Int) (b : Int) = Go.bits .or .i64 (b : Int) (a : Int) := by
  rw [(bits_nat .i64 63 (by decide) wraps_i64 a b ha hb).2, (bits_nat .i64 63 (by decide) wraps_i64 b a hb ha).2, Nat.or_comm]
theorem or_add (n c i : Nat) (hn : n < 2 ^ (7 * i)) (hc : c < 128) (hi : i ≤ 7) : Go.bits .or .i64 (n : Int) (shl .i64 (c : Int) (wrap64 (7 * (i : Int)))) = ((n + c * 2 ^ (7 * i) : Nat) : Int) := by
  have e : wrap64 (7 * (i : Int)) = ((7 * i : Nat) : Int) := by unfold wrap64; omega
  have hp : 2 ^ (7 * i) ≤ 2 ^ 49 := Nat.pow_le_pow_right (by omega) (by omega)
  have hcp : c * 2 ^ (7 * i) ≤ 127 * 2 ^ 49 := Nat.mul_le_mul (by omega) hp
  have h2 : shl .i64 (c : Int) (wrap64 (7 * (i : Int))) = ((c * 2 ^ (7 * i) : Nat) : Int) := by
    unfold shl
    rw [e, Int.toNat_natCast, Nat.min_eq_left (by show 7 * i ≤ 64; omega)]
    have e2 : (c : Int) * 2 ^ (7 * i) = ((c * 2 ^ (7 * i) : Nat) : Int) := by simp
    rw [e2]
    exact wraps_i64 _ (by omega) (by omega)
  rw [h2, bits_or_comm _ _ (by omega) (by omega), bits_join .i64 63 (by decide) wraps_i64 (7 * i) _ _ (by omega) ?_ (by omega) (by omega) (by exact_mod_cast hn) (by omega)]
  · omega
  · have : ((c * 2 ^ (7 * i) : Nat) : Int) = (c : Int) * 2 ^ (7 * i) := by simp
    rw [this]
    exact Int.mul_emod_left _ _
theorem bt_B (l : List UInt8) (i : Nat) : bt (B l) (i : Int) = ((l.getD i 0).toNat : Int) := by
  unfold bt
  rw [Int.toNat_natCast]
  split
  · rename_i h
    have h' : i < l.length := by rw [B_size] at h; exact h
    have e : (B l)[i]'h = l[i] := by show (B l).data[i] = _; simp [B]
    rw [e, List.getD_eq_getElem?_getD, List.getElem?_eq_getElem h']; rfl
  · rename_i h
    have h' : l.length ≤ i := by rw [B_size] at h; omega
    rw [List.getD_eq_getElem?_getD, List.getElem?_eq_none h']; rfl
def nb (l : List UInt8) : List Int := l.map fun c => (c.toNat : Int)
theorem nb_append (a b : List UInt8) : nb (a ++ b) = nb a ++ nb b := by simp [nb]
theorem strOfNums_nb (l : List UInt8) : strOfNums (nb l) = B l := by
  unfold strOfNums B nb
  rw [List.map_map]
  congr 2
  have : ((fun n : Int => UInt8.ofNat n.toNat) ∘ fun c : UInt8 => (c.toNat : Int)) = id := by
    funext c; simp
  rw [this, List.map_id]
theorem nb_one (n : Nat) (h : n < 128) : nb [UInt8.ofNat n] = [(n : Int) % 256] := by
  simp only [nb, List.map_cons, List.map_nil]
  rw [u8_toNat n (by omega), Int.emod_eq_of_lt (by omega) (by omega)]
theorem number_loop (j : Nat) : ∀ (n k : Nat) (acc : List UInt8), n < 128 ^ (j + 1) → j < k → acc.length + j ≤ 1000 → pack_Number.l0 k (n : Int) (nb acc) = some (B (acc ++ enc n)) := by
  induction j with
  | zero =>
    intro n k acc hn hk ha
    obtain ⟨k, rfl⟩ : ∃ m, k = m + 1 := ⟨k - 1, by omega⟩
    simp only [pack_Number.l0]
    have hl : (nb acc).length = acc.length := by simp [nb]
    rw [if_neg (by omega), if_pos (by omega), enc_lt (by omega)]
    have e : nb acc ++ [(n : Int) % 256] = nb (acc ++ [UInt8.ofNat n]) := by
      rw [nb_append, nb_one n (by omega)]
    rw [e, strOfNums_nb]
  | succ j ih =>
    intro n k acc hn hk ha
    obtain ⟨k, rfl⟩ : ∃ m, k = m + 1 := ⟨k - 1, by omega⟩
    have hl : (nb acc).length = acc.length := by simp [nb]
    by_cases h : n < 128
    · exact (by
        simp only [pack_Number.l0]
        rw [if_neg (by omega), if_pos (by omega), enc_lt (by omega)]
        have e : nb acc ++ [(n : Int) % 256] = nb (acc ++ [UInt8.ofNat n]) := by
          rw [nb_append, nb_one n (by omega)]
        rw [e, strOfNums_nb])
    · simp only [pack_Number.l0]
      rw [if_pos (by omega), if_pos (by omega), or128']
      have e : nb acc ++ [((128 + n % 128 : Nat) : Int)] = nb (acc ++ [UInt8.ofNat (128 + n % 128)]) := by
        rw [nb_append]
        congr 1
        simp only [nb, List.map_cons, List.map_nil]
        rw [u8_toNat _ (by omega)]
      have e2 : (n : Int) / 128 = ((n / 128 : Nat) : Int) := by omega
      rw [e, e2, ih (n / 128) k _ ?_ (by omega) (by rw [List.length_append, List.length_singleton]; omega), enc_ge (n := n) (by omega), List.append_assoc, List.singleton_append]
      · rw [Nat.pow_succ] at hn
        exact Nat.div_lt_of_lt_mul (by omega)
theorem number_f (n k : Nat) (h : n < 2 ^ 56) (hk : 20 ≤ k) : pack_Number.f k (n : Int) = some (B (enc n)) := by
  unfold pack_Number.f
  obtain ⟨k, rfl⟩ : ∃ m, k = m + 1 := ⟨k - 1, by omega⟩
  have e : decide ((n : Int) > 72057594037927935) = false := by simp; omega
  rw [if_neg (by omega), e]
  simp only [pack_Number.j0]
  rw [if_neg (by decide)]
  exact number_loop 7 n k [] (by simpa using h) (by omega) (by simp)
theorem text_f (s : List UInt8) (k : Nat) (h : s.length ≤ 140737488355328) (hk : 20 ≤ k) : pack_Text.f k (B s) = some (B (txt s)) := by
  unfold pack_Text.f
  rw [B_size, number_f s.length k (by omega) hk]
  simp only [Option.bind_some]
  have := enc_len8 (m := s.length) (by omega)
  rw [if_pos (by rw [B_size]; omega), B_append]
  rfl
theorem wrap7 (i : Nat) (hi : i ≤ 7) : wrap64 (7 * (i : Int)) = ((7 * i : Nat) : Int) := by unfold wrap64; omega
theorem wrap_succ (i : Nat) (hi : i ≤ 140737488355328) : wrap64 ((i : Int) + 1) = ((i + 1 : Nat) : Int) := by unfold wrap64; omega
theorem wrap_small (i : Nat) (hi : i ≤ 140737488355328) : wrap64 (i : Int) = (i : Int) := by unfold wrap64; omega
theorem rnum_end (l : List UInt8) (_hl : l.length ≤ 140737488355328) (i n c : Nat) (hi : i ≤ 7) (hil : i < l.length) (hn : n < 2 ^ (7 * i)) (hc : c < 128) :
    (if 0 ≤ wrap64 ((i : Int) + 1) then (if wrap64 ((i : Int) + 1) ≤ ((B l).size : Int) then (if 0 ≤ wrap64 (7 * (i : Int)) then (some (Go.bits .or .i64 (n : Int) (shl .i64 (wrap64 (c : Int)) (wrap64 (7 * (i : Int)))), (B l).extract (wrap64 ((i : Int) + 1)).toNat (B l).size, (0 : Int))) else none) else none) else none) = some (((n + c * 2 ^ (7 * i) : Nat) : Int), B (l.drop (i + 1)), (0 : Int)) := by
  rw [wrap_small c (by omega), or_add n c i hn hc hi, wrap_succ i (by omega), if_pos (by omega), if_pos (by rw [B_size]; omega), if_pos (by rw [wrap7 i hi]; omega), Int.toNat_natCast, B_size, B_extract, List.take_of_length_le (by rw [List.length_drop]; omega)]
theorem rnum_loop (l : List UInt8) (hl : l.length ≤ 140737488355328) (d : Nat) : ∀ (k i n : Nat), 8 - i = d → i ≤ 7 → i ≤ l.length → n < 2 ^ (7 * i) → d < k →
    pack_Reader_Number.l0 k (n : Int) (l.length : Int) (i : Int) (B l) 0 = some (((tk (l.drop i) i n).1 : Int), B (tk (l.drop i) i n).2.1, (tk (l.drop i) i n).2.2) := by
  induction d with
  | zero => intro k i n hd hi; omega
  | succ d ih =>
    intro k i n hd hi hil hn hk
    obtain ⟨k, rfl⟩ : ∃ m, k = m + 1 := ⟨k - 1, by omega⟩
    simp only [pack_Reader_Number.l0]
    by_cases h1 : i < l.length
    · rw [if_pos (by omega), if_pos (by omega), if_pos (by rw [B_size]; omega), bt_B]
      have hc : l.drop i = l.getD i 0 :: l.drop (i + 1) := by
        rw [List.drop_eq_getElem_cons h1, List.getD_eq_getElem?_getD, List.getElem?_eq_getElem h1]; rfl
      rw [hc]
      generalize l.getD i 0 = c
      have hc8 := c.toNat_lt
      have e7 : wrap64 (7 * (i : Int)) = ((7 * i : Nat) : Int) := by unfold wrap64; omega
      have e1 : wrap64 ((i : Int) + 1) = ((i + 1 : Nat) : Int) := by unfold wrap64; omega
      by_cases h128 : 128 ≤ c.toNat
      · rw [if_pos (by omega)]
        by_cases h7 : i = 7
        · rw [if_pos (by omega)]
          have : tk (c :: l.drop (i + 1)) i n = (0, [], 4) := by rw [tk, if_pos h128, if_pos h7]
          rw [this]
          rfl
        · rw [if_neg (by omega), if_pos (by rw [e7]; omega)]
          have e3 : ((c.toNat : Int) - 128) % 256 = ((c.toNat - 128 : Nat) : Int) := by omega
          rw [e3, or_add n (c.toNat - 128) i hn (by omega) hi, e1]
          have e4 : tk (c :: l.drop (i + 1)) i n = tk (l.drop (i + 1)) (i + 1) (n + (c.toNat - 128) * 2 ^ (7 * i)) := by rw [tk, if_pos h128, if_neg h7]
          rw [e4]
          refine ih k (i + 1) _ (by omega) (by omega) (by omega) ?_ (by omega)
          rw [pow7 i]
          have : (c.toNat - 128) * 2 ^ (7 * i) ≤ 127 * 2 ^ (7 * i) := Nat.mul_le_mul_right _ (by omega)
          omega
      · rw [if_neg (by omega)]
        have hsh : pack_Reader_wrong.f (B l) 0 4 = some (⟨#[]⟩, 4) := rfl
        have hend := rnum_end l hl i n c.toNat hi h1 hn (by omega)
        by_cases h0 : c.toNat = 0
        · rw [if_pos (by omega)]
          by_cases hi0 : 0 < i
          · rw [if_pos (by omega)]
            have : tk (c :: l.drop (i + 1)) i n = (0, [], 4) := by rw [tk, if_neg h128, if_pos ⟨h0, hi0⟩]
            rw [this]
            rfl
          · rw [if_neg (by omega), hend]
            have : tk (c :: l.drop (i + 1)) i n = (n + c.toNat * 2 ^ (7 * i), l.drop (i + 1), 0) := by rw [tk, if_neg h128, if_neg (by omega)]
            rw [this]
        · rw [if_neg (by omega), hend]
          have : tk (c :: l.drop (i + 1)) i n = (n + c.toNat * 2 ^ (7 * i), l.drop (i + 1), 0) := by rw [tk, if_neg h128, if_neg (by omega)]
          rw [this]
    · rw [if_neg (by omega), List.drop_eq_nil_of_le (by omega)]
      rfl
theorem rnum_f (l : List UInt8) (k : Nat) (hl : l.length ≤ 140737488355328) (hk : 20 ≤ k) : pack_Reader_Number.f k (B l) 0 = some (((tk l 0 0).1 : Int), B (tk l 0 0).2.1, (tk l 0 0).2.2) := by
  unfold pack_Reader_Number.f pack_Reader_works.f
  simp only [Option.bind_some]
  rw [if_pos (by rfl), B_size]
  exact rnum_loop l hl 8 k 0 0 rfl (by omega) (by omega) (by simp) (by omega)
theorem rnum_err (s : ByteArray) (e : Int) (k : Nat) (he : e ≠ 0) : pack_Reader_Number.f k s e = some (0, s, e) := by
  unfold pack_Reader_Number.f pack_Reader_works.f
  simp only [Option.bind_some]
  rw [if_neg (by simpa using he)]
theorem rtext_f (l : List UInt8) (k : Nat) (hl : l.length ≤ 140737488355328) (hk : 21 ≤ k) : pack_Reader_Text.f k (B l) 0 = some (B (tkT l).1, B (tkT l).2.1, (tkT l).2.2) := by
  obtain ⟨k, rfl⟩ : ∃ m, k = m + 1 := ⟨k - 1, by omega⟩
  have hle := tk_le l 0 0
  have herr := tk_err l 0 0
  unfold pack_Reader_Text.f
  rw [rnum_f l _ hl (by omega)]
  unfold tkT
  generalize tk l 0 0 = t at hle herr ⊢
  obtain ⟨n, r, e⟩ := t
  simp only [Option.bind_some, pack_Reader_works.f] at *
  by_cases h0 : e = 0
  · subst h0
    rw [if_pos (by rfl), if_neg (by simp)]
    rw [B_size]
    by_cases h1 : r.length < n
    · have hd : decide ((n : Int) > (r.length : Int)) = true := by simp; omega
      rw [hd, if_pos h1]
      simp only [pack_Reader_Text.j0, pack_Reader_wrong.f, pack_Reader_works.f, Option.bind_some]
      rw [if_pos trivial, if_neg (by decide)]
      rfl
    · have hd : decide ((n : Int) > (r.length : Int)) = false := by simp; omega
      rw [hd, if_neg h1]
      simp only [pack_Reader_Text.j0, pack_Reader_wrong.f, pack_Reader_works.f, Option.bind_some]
      rw [if_neg (by decide), if_pos (by decide), if_pos (by omega), if_pos (by rw [B_size]; omega), Int.toNat_natCast, B_size, B_extract, B_extract, List.drop_zero, Nat.sub_zero, List.take_of_length_le (l := r.drop n) (by rw [List.length_drop]; omega)]
  · rw [if_neg (by simpa using h0), if_pos h0]
    simp only [pack_Reader_Text.j0, pack_Reader_wrong.f, pack_Reader_works.f, Option.bind_some]
    rw [if_neg (by decide), if_neg (by simpa using h0)]
    rcases herr with h | h | h
    · exact absurd h h0
    · simp only [Prod.mk.injEq] at h
      obtain ⟨_, rfl, rfl⟩ := h
      rfl
    · simp only [Prod.mk.injEq] at h
      obtain ⟨_, rfl, rfl⟩ := h
      rfl
theorem rtext_err (s : ByteArray) (e : Int) (k : Nat) (he : e ≠ 0) (hk : 1 ≤ k) : pack_Reader_Text.f k s e = some (⟨#[]⟩, s, e) := by
  obtain ⟨k, rfl⟩ : ∃ m, k = m + 1 := ⟨k - 1, by omega⟩
  unfold pack_Reader_Text.f
  rw [rnum_err s e _ he]
  simp only [Option.bind_some, pack_Reader_works.f]
  rw [if_neg (by simpa using he)]
  simp only [pack_Reader_Text.j0, pack_Reader_wrong.f, pack_Reader_works.f, Option.bind_some]
  rw [if_neg (by decide), if_neg (by simpa using he)]
end Go.Proofs.Ytmfcbfgijimliaa
end
section
namespace Go.Proofs.Ytmfcbfgijimliaa
open Go.RowKit
def S (v : BitVec 32) : BitVec 32 := (v >>> 1) ^^^ (if v.getLsbD 0 then 0x82F63B78#32 else 0#32)
def Sn : Nat → BitVec 32 → BitVec 32
  | 0, v => v
  | k + 1, v => S (Sn k v)
theorem S_xor (a b : BitVec 32) : S (a ^^^ b) = S a ^^^ S b := by
  unfold S
  rw [BitVec.ushiftRight_xor_distrib, BitVec.getLsbD_xor]
  cases a.getLsbD 0 <;> cases b.getLsbD 0 <;> simp
  · rw [BitVec.xor_assoc]
  · rw [BitVec.xor_assoc, BitVec.xor_assoc, BitVec.xor_comm (b >>> 1)]
  · rw [BitVec.xor_assoc, BitVec.xor_comm _ (b >>> 1 ^^^ _), BitVec.xor_assoc, BitVec.xor_self, BitVec.xor_zero]
theorem Sn_xor (k : Nat) (a b : BitVec 32) : Sn k (a ^^^ b) = Sn k a ^^^ Sn k b := by
  induction k with
  | zero => rfl
  | succ k ih => simp only [Sn]; rw [ih, S_xor]
theorem Sn_shift (k : Nat) (v : BitVec 32) (h : ∀ i, i < k → v.getLsbD i = false) : Sn k v = v >>> k := by
  induction k with
  | zero => simp [Sn]
  | succ k ih =>
    simp only [Sn]
    rw [ih (fun i hi => h i (by omega))]
    unfold S
    have : (v >>> k).getLsbD 0 = false := by rw [BitVec.getLsbD_ushiftRight]; exact h k (by omega)
    rw [this]
    simp [BitVec.shiftRight_add]
theorem Sn_shl (k : Nat) (v : BitVec 32) (h : v.toNat * 2 ^ k < 2 ^ 32) : Sn k (v <<< k) = v := by
  rw [Sn_shift k _ (fun i hi => by rw [BitVec.getLsbD_shiftLeft]; simp [hi])]
  apply BitVec.eq_of_toNat_eq
  rw [BitVec.toNat_ushiftRight, BitVec.toNat_shiftLeft, Nat.shiftLeft_eq, Nat.mod_eq_of_lt h, Nat.shiftRight_eq_div_pow, Nat.mul_div_cancel _ (Nat.two_pow_pos k)]
def c32 (c : UInt8) : BitVec 32 := BitVec.ofNat 32 c.toNat
def stepB (x : BitVec 32) (c : UInt8) : BitVec 32 := Sn 8 (x ^^^ c32 c)
def reg (x : BitVec 32) (l : List UInt8) : BitVec 32 := l.foldl stepB x
def crc (l : List UInt8) : BitVec 32 := ~~~ reg 0xFFFFFFFF#32 l
theorem reg_append (x : BitVec 32) (a b : List UInt8) : reg x (a ++ b) = reg (reg x a) b := by simp [reg]
def w4 (v : BitVec 32) : List UInt8 := [UInt8.ofNat (v.toNat % 256), UInt8.ofNat (v.toNat / 256 % 256), UInt8.ofNat (v.toNat / 65536 % 256), UInt8.ofNat (v.toNat / 16777216 % 256)]
theorem w4_len (v : BitVec 32) : (w4 v).length = 4 := rfl
end Go.Proofs.Ytmfcbfgijimliaa
end
section
namespace Go.Proofs.Ytmfcbfgijimliaa
open Go.RowKit
theorem ofInt_toNat {n : Nat} (v : BitVec n) : BitVec.ofInt n (v.toNat : Int) = v := by
  rw [BitVec.ofInt_natCast, BitVec.ofNat_toNat, BitVec.setWidth_eq]
theorem wrap_u32_nat (n : Nat) (h : n < 4294967296) : IntKind.u32.wrap (n : Int) = n := by rw [IntKind.wrap_u32]; omega
theorem bits_xor32 (a b : BitVec 32) : Go.bits .xor .u32 (a.toNat : Int) (b.toNat : Int) = ((a ^^^ b).toNat : Int) := by
  show IntKind.u32.wrap ((BitVec.ofInt 32 (a.toNat : Int) ^^^ BitVec.ofInt 32 (b.toNat : Int)).toNat : Int) = _
  rw [ofInt_toNat, ofInt_toNat]
  exact wrap_u32_nat _ (a ^^^ b).isLt
theorem bits_and32 (a b : BitVec 32) : Go.bits .and .u32 (a.toNat : Int) (b.toNat : Int) = ((a &&& b).toNat : Int) := by
  show IntKind.u32.wrap ((BitVec.ofInt 32 (a.toNat : Int) &&& BitVec.ofInt 32 (b.toNat : Int)).toNat : Int) = _
  rw [ofInt_toNat, ofInt_toNat]
  exact wrap_u32_nat _ (a &&& b).isLt
theorem bits_xor8 (a b : BitVec 8) : Go.bits .xor .u8 (a.toNat : Int) (b.toNat : Int) = ((a ^^^ b).toNat : Int) := by
  show IntKind.u8.wrap ((BitVec.ofInt 8 (a.toNat : Int) ^^^ BitVec.ofInt 8 (b.toNat : Int)).toNat : Int) = _
  rw [ofInt_toNat, ofInt_toNat, IntKind.wrap_u8]
  have := (a ^^^ b).isLt
  omega
theorem half_toNat (v : BitVec 32) : (v.toNat : Int) / (2 : Int) = ((v >>> 1).toNat : Int) := by
  rw [BitVec.toNat_ushiftRight, Nat.shiftRight_eq_div_pow]; omega
theorem lsb_toNat (v : BitVec 32) : v.toNat % 2 = if v.getLsbD 0 then 1 else 0 := by
  have : v.getLsbD 0 = decide (v.toNat % 2 = 1) := by
    rw [← BitVec.testBit_toNat, Nat.testBit_zero]
  rw [this]
  by_cases h : v.toNat % 2 = 1
  · simp [h]
  · simp [h]; omega
theorem crcR_eq (v : BitVec 32) : crcR (v.toNat : Int) = ((S v).toNat : Int) := by
  unfold crcR S
  have e1 : Go.bits .and .u32 (v.toNat : Int) 1 = ((v &&& 1#32).toNat : Int) := bits_and32 v 1#32
  have e2 : (v &&& 1#32).toNat = if v.getLsbD 0 then 1 else 0 := by
    rw [BitVec.toNat_and]
    show v.toNat &&& 1 = _
    rw [Nat.and_one_is_mod, lsb_toNat]
  rw [e1, e2, half_toNat]
  cases v.getLsbD 0
  · exact bits_xor32 (v >>> 1) 0#32
  · exact bits_xor32 (v >>> 1) 0x82F63B78#32
theorem crcN_eq (k : Nat) (v : BitVec 32) : crcN k (v.toNat : Int) = ((Sn k v).toNat : Int) := by
  induction k with
  | zero => rfl
  | succ k ih => rw [crcN, ih, crcR_eq]; rfl
theorem shr8_parts (x : BitVec 32) : x = BitVec.ofNat 32 (x.toNat % 256) ^^^ (BitVec.ofNat 32 (x.toNat / 256) <<< 8) := by
  apply BitVec.eq_of_getLsbD_eq
  intro i hi
  simp only [BitVec.getLsbD_xor, BitVec.getLsbD_shiftLeft, BitVec.getLsbD_ofNat]
  have e1 : x.toNat % 256 = x.toNat % 2 ^ 8 := rfl
  have e2 : x.toNat / 256 = x.toNat / 2 ^ 8 := rfl
  rw [e1, e2]
  simp only [Nat.testBit_mod_two_pow, Nat.testBit_div_two_pow]
  rw [← BitVec.testBit_toNat]
  by_cases h1 : i < 8
  · simp [h1, hi]
  · simp [h1, hi, show i - 8 < 32 by omega, show i - 8 + 8 = i by omega]
theorem crcB_eq (x : BitVec 32) (c : UInt8) : crcB (x.toNat : Int) (c.toNat : Int) = ((stepB x c).toNat : Int) := by
  unfold crcB stepB
  have hx := x.isLt
  have hc := c.toNat_lt
  have e1 : Go.bits .xor .u8 ((x.toNat : Int) % 256) (c.toNat : Int) = ((BitVec.ofNat 32 (x.toNat % 256) ^^^ c32 c).toNat : Int) := by
    have h := bits_xor8 (BitVec.ofNat 8 (x.toNat % 256)) (BitVec.ofNat 8 c.toNat)
    simp only [BitVec.toNat_ofNat, BitVec.toNat_xor] at h
    rw [Nat.mod_eq_of_lt (a := x.toNat % 256) (by omega), Nat.mod_eq_of_lt (a := c.toNat) (by omega)] at h
    have e : ((x.toNat % 256 : Nat) : Int) = (x.toNat : Int) % 256 := by omega
    rw [← e, h]
    unfold c32
    simp only [BitVec.toNat_ofNat, BitVec.toNat_xor]
    rw [Nat.mod_eq_of_lt (a := x.toNat % 256) (b := 2 ^ 32) (by omega), Nat.mod_eq_of_lt (a := c.toNat) (b := 2 ^ 32) (by omega)]
  have e2 : (x.toNat : Int) / 256 = ((BitVec.ofNat 32 (x.toNat / 256)).toNat : Int) := by
    rw [BitVec.toNat_ofNat, Nat.mod_eq_of_lt (by omega)]; omega
  rw [e1, e2, crcN_eq, bits_xor32]
  congr 2
  conv => rhs; rw [shr8_parts x]
  have e3 : BitVec.ofNat 32 (x.toNat / 256) = Sn 8 (BitVec.ofNat 32 (x.toNat / 256) <<< 8) := (Sn_shl 8 _ (by rw [BitVec.toNat_ofNat, Nat.mod_eq_of_lt (by omega)]; omega)).symm
  conv => lhs; rw [e3]
  rw [← Sn_xor]
  congr 1
  rw [BitVec.xor_assoc, BitVec.xor_comm (c32 c), BitVec.xor_assoc]
theorem take_succ_getD (l : List UInt8) (k : Nat) (h : k < l.length) : l.take (k + 1) = l.take k ++ [l.getD k 0] := by
  rw [List.take_succ_eq_append_getElem h, List.getD_eq_getElem?_getD, List.getElem?_eq_getElem h]; rfl
theorem toList_len (s : ByteArray) : s.data.toList.length = s.size := Array.length_toList
theorem crcS_eq (s : ByteArray) (k : Nat) (h : k ≤ s.size) : crcS s k = ((reg 0xFFFFFFFF#32 (s.data.toList.take k)).toNat : Int) := by
  induction k with
  | zero => rfl
  | succ k ih =>
    rw [crcS, ih (by omega)]
    unfold byteAt
    rw [crcB_eq, take_succ_getD _ _ (by rw [toList_len]; omega), reg_append]
    rfl
theorem not_toNat (v : BitVec 32) : 0xFFFFFFFF#32 ^^^ v = ~~~ v := by
  rw [show (0xFFFFFFFF#32) = BitVec.allOnes 32 from rfl, BitVec.allOnes_xor]
theorem ofS_eq (s : ByteArray) : ofS s = ((crc s.data.toList).toNat : Int) := by
  unfold ofS crc
  rw [crcS_eq s s.size (Nat.le_refl _), List.take_of_length_le (by rw [toList_len]; exact Nat.le_refl _), ← not_toNat]
  exact bits_xor32 0xFFFFFFFF#32 _
theorem le4_eq (v : BitVec 32) : strOfNums (le4 (v.toNat : Int)) = ⟨(w4 v).toArray⟩ := by
  unfold strOfNums le4 w4
  congr 1
end Go.Proofs.Ytmfcbfgijimliaa
end
section
namespace Go.Proofs.Ytmfcbfgijimliaa
open Go.RowKit
def sealL (l : List UInt8) : List UInt8 := l ++ w4 (crc l)
theorem sealL_len (l : List UInt8) : (sealL l).length = l.length + 4 := by simp [sealL, w4_len]
def sealed (l : List UInt8) : Prop := 4 ≤ l.length ∧ l.drop (l.length - 4) = w4 (crc (l.take (l.length - 4)))
theorem sealed_seal (l : List UInt8) : sealed (sealL l) := by
  refine ⟨by rw [sealL_len]; omega, ?_⟩
  rw [sealL_len, Nat.add_sub_cancel]
  unfold sealL
  rw [List.drop_left, List.take_left]
theorem take_seal (l : List UInt8) : (sealL l).take ((sealL l).length - 4) = l := by
  rw [sealL_len, Nat.add_sub_cancel]
  unfold sealL
  rw [List.take_left]
theorem of_sealed {l : List UInt8} (h : sealed l) : sealL (l.take (l.length - 4)) = l := by
  unfold sealL
  rw [← h.2, List.take_append_drop]
def openL (l : List UInt8) : ByteArray × Int := if l.length < 4 then (B [], 3) else if l.drop (l.length - 4) = w4 (crc (l.take (l.length - 4))) then (B (l.take (l.length - 4)), 0) else (B [], 5)
theorem openL_seal (l : List UInt8) : openL (sealL l) = (B l, 0) := by
  unfold openL
  rw [if_neg (by rw [sealL_len]; omega), if_pos (sealed_seal l).2, take_seal]
theorem openL_cases (m : List UInt8) : (m.length < 4 ∧ openL m = (B [], 3)) ∨ (4 ≤ m.length ∧ ¬ sealed m ∧ openL m = (B [], 5)) ∨ ∃ u, m = sealL u ∧ openL m = (B u, 0) := by
  by_cases h4 : m.length < 4
  · exact .inl ⟨h4, by unfold openL; rw [if_pos h4]⟩
  · by_cases h2 : m.drop (m.length - 4) = w4 (crc (m.take (m.length - 4)))
    · refine .inr (.inr ⟨m.take (m.length - 4), (of_sealed ⟨by omega, h2⟩).symm, ?_⟩)
      unfold openL; rw [if_neg h4, if_pos h2]
    · exact .inr (.inl ⟨by omega, fun h => h2 h.2, by unfold openL; rw [if_neg h4, if_neg h2]⟩)
theorem wrap_sub4 (n : Nat) (h : n ≤ 140737488355328) : wrap64 ((n : Int) - 4) = (n : Int) - 4 := by unfold wrap64; omega
theorem of_f (l : List UInt8) (h : l.length ≤ 140737488355328) : check_Of.f (B l) = some ((crc l).toNat : Int) := by
  unfold check_Of.f
  rw [if_pos (by rw [B_size]; exact h), ofS_eq, B_data]
theorem bytes_f (v : BitVec 32) : check_bytes.f (v.toNat : Int) = some (B (w4 v)) := by
  unfold check_bytes.f
  have := v.isLt
  rw [if_pos (by omega), le4_eq]
  rfl
theorem seal_f (l : List UInt8) (h : l.length ≤ 140737488355328) : Q.check_Seal.f (B l) = some (B (sealL l)) := by
  unfold Q.check_Seal.f
  rw [of_f l h]
  simp only [Option.bind_some]
  rw [bytes_f]
  simp only [Option.bind_some]
  rw [if_pos (by rw [B_size, B_size, w4_len]; omega), B_append]
  rfl
theorem open_f (l : List UInt8) (h : l.length ≤ 140737488355328) : Q.check_Open.f (B l) = some (openL l) := by
  unfold openL
  unfold Q.check_Open.f
  rw [B_size, wrap_sub4 _ h]
  by_cases h4 : l.length < 4
  · rw [if_pos (by omega), if_pos h4]; rfl
  · rw [if_neg (by omega), if_pos (by omega), if_pos (by omega), if_neg h4]
    have e : ((l.length : Int) - 4).toNat = l.length - 4 := by omega
    rw [e, B_extract, B_extract, List.drop_zero, Nat.sub_zero, of_f _ (by rw [List.length_take]; omega)]
    simp only [Option.bind_some]
    rw [bytes_f]
    simp only [Option.bind_some]
    rw [B_toList, B_toList, List.take_of_length_le (by rw [List.length_drop]; omega)]
    by_cases h2 : l.drop (l.length - 4) = w4 (crc (l.take (l.length - 4)))
    · rw [if_pos h2, if_pos h2]
    · rw [if_neg h2, if_neg h2]; rfl
end Go.Proofs.Ytmfcbfgijimliaa
end
section
namespace Go.Proofs.Ytmfcbfgijimliaa
end Go.Proofs.Ytmfcbfgijimliaa
end
section
namespace Go.Proofs.Ytmfcbfgijimliaa
end Go.Proofs.Ytmfcbfgijimliaa
end
section
namespace Go.Proofs.Ytmfcbfgijimliaa
open Go.RowKit Q Go.Proofs.YtmfcbfgijimliaaW.PrintWords Go.Proofs.YtmfcbfgijimliaaW.PrintLast Go.Proofs.YtmfcbfgijimliaaW.PrintMore
def nx (s : List UInt8 × Int) : Nat × List UInt8 × Int := if s.2 = 0 then tk s.1 0 0 else (0, s.1, s.2)
def tx (s : List UInt8 × Int) : List UInt8 × List UInt8 × Int := if s.2 = 0 then tkT s.1 else ([], s.1, s.2)
def rdn (l : List UInt8) : Nat → List UInt8 × Int
  | 0 => (l, 0)
  | k + 1 => (nx (rdn l k)).2
def val (l : List UInt8) (k : Nat) : Nat := (nx (rdn l k)).1
def endE (s : List UInt8 × Int) : Int := if s.1 = [] then s.2 else 4
theorem nx_le (s : List UInt8 × Int) : (nx s).2.1.length ≤ s.1.length := by
  unfold nx
  split
  · exact tk_le _ _ _
  · exact Nat.le_refl _
theorem rnx_f (s : List UInt8 × Int) (h : s.1.length ≤ 140737488355328) : pack_Reader_Number.f 20 (B s.1) s.2 = some (((nx s).1 : Int), B (nx s).2.1, (nx s).2.2) := by
  obtain ⟨l, e⟩ := s
  unfold nx
  simp only
  by_cases he : e = 0
  · subst he
    rw [if_pos rfl]
    exact rnum_f l 20 h (Nat.le_refl _)
  · rw [if_neg he]
    exact rnum_err (B l) e 20 he
theorem rtx_f (s : List UInt8 × Int) (h : s.1.length ≤ 140737488355328) : pack_Reader_Text.f 21 (B s.1) s.2 = some (B (tx s).1, B (tx s).2.1, (tx s).2.2) := by
  obtain ⟨l, e⟩ := s
  unfold tx
  simp only
  by_cases he : e = 0
  · subst he
    rw [if_pos rfl]
    exact rtext_f l 21 h (Nat.le_refl _)
  · rw [if_neg he]
    exact rtext_err (B l) e 21 he (by decide)
theorem rend_f (s : List UInt8 × Int) : pack_Reader_End.f (B s.1) s.2 = some (endE s, B [], endE s) ∨ pack_Reader_End.f (B s.1) s.2 = some (endE s, B s.1, endE s) := by
  obtain ⟨l, e⟩ := s
  unfold pack_Reader_End.f endE
  simp only
  rw [B_toList]
  by_cases h : l = []
  · rw [if_pos h, if_pos h]
    exact .inr rfl
  · rw [if_neg h, if_neg h]
    exact .inl rfl
theorem nx_enc (m : Nat) (r : List UInt8) (h : m < 2 ^ 56) : nx (enc m ++ r, 0) = (m, r, 0) := by
  unfold nx
  simp only [if_true]
  exact tk_zero m r h
end Go.Proofs.Ytmfcbfgijimliaa
end
section
namespace Go.Proofs.Ytmfcbfgijimliaa
open Go.RowKit Go.Proofs.YtmfcbfgijimliaaW.PrintWords
theorem below2 {w w1 w2 : World} {B : Nat} (a : Below B w w1) (hB : B ≤ w1.heap.size) (b : Below w1.heap.size w1 w2) : Below B w w2 := a.trans (b.mono hB)
def Blk (w : World) (g : Nat) (c : Array Value) (T : TypeId) : Prop := w.heap[g]? = some (.cells c T (0, 0))
theorem Blk.lt {w : World} {g : Nat} {c : Array Value} {T : TypeId} (h : Blk w g c T) : g < w.heap.size := (Array.getElem?_eq_some_iff.1 h).1
theorem Blk.cell {w : World} {g : Nat} {c : Array Value} {T : TypeId} (h : Blk w g c T) {i : Nat} {v : Value} (hi : c[i]? = some v) : w.cell? ⟨g, i, none⟩ = some v := by rw [Lib.cell_of_heap h]; exact hi
theorem Blk.free {w : World} {g : Nat} {c : Array Value} {T : TypeId} (h : Blk w g c T) (i : Nat) : w.frozen? ⟨g, i, none⟩ = false := Lib.frozen_of_heap h i
theorem Blk.set {w : World} {g : Nat} {c : Array Value} {T : TypeId} (h : Blk w g c T) (i : Nat) (v : Value) : Blk (w.setCell ⟨g, i, none⟩ v) g (c.setIfInBounds i v) T := by
  have : w.heap[g]? = _ := h
  simp [Blk, World.setCell, Array.getElem?_modify, this]
theorem Blk.other {w : World} {g g' : Nat} {c : Array Value} {T : TypeId} (h : Blk w g c T) (hne : g ≠ g') (i : Nat) (v : Value) : Blk (w.setCell ⟨g', i, none⟩ v) g c T := (Below.heap_setCell _ _ _ _ (fun e => hne e)).trans h
theorem Blk.keep {w w' : World} {g : Nat} {c : Array Value} {T : TypeId} (h : Blk w g c T) (hb : Below w.heap.size w w') : Blk w' g c T := (hb.block g h.lt).trans h
theorem Blk.alloc {w : World} {g : Nat} {c : Array Value} {T : TypeId} (h : Blk w g c T) (o : Obj) : Blk (w.alloc o) g c T := (Lib.alloc_old w o g h.lt).trans h
theorem Blk.new (w : World) (c : Array Value) (T : TypeId) : Blk (w.alloc (.cells c T)) w.heap.size c T := heap_alloc_new w _
theorem Blk.but {w w' : World} {g g' : Nat} {c : Array Value} {T : TypeId} (h : Blk w g c T) (hk : KeepBut w w' g' none) (hne : g ≠ g') : Blk w' g c T := (hk.2 g h.lt hne (by simp)).trans h
theorem below_setRow' {B : Nat} {w w1 : World} (h : Below B w w1) {g : Nat} (hg : B ≤ g) (c : Array Value) : Below B w (w1.setRow g c) :=
  h.trans ⟨rfl, rfl, rfl, by simp [World.setRow], fun k hk => setRow_other w1 g k c (by omega)⟩
theorem lt_cell {w : World} {ad : Addr} {v : Value} (h : w.cell? ad = some v) : ad.block < w.heap.size := by
  rcases Nat.lt_or_ge ad.block w.heap.size with h1 | h1
  · exact h1
  · exfalso
    have : w.heap[ad.block]? = none := Array.getElem?_eq_none h1
    simp [World.cell?, this] at h
theorem cells14 {w : World} {g : Nat} {T : TypeId} {a0 a1 a2 a3 a4 a5 a6 a7 a8 a9 a10 a11 a12 a13 : Value} (h : Blk w g #[a0, a1, a2, a3, a4, a5, a6, a7, a8, a9, a10, a11, a12, a13] T) : w.cell? ⟨g, 0, none⟩ = some a0 ∧ w.cell? ⟨g, 1, none⟩ = some a1 ∧ w.cell? ⟨g, 2, none⟩ = some a2 ∧ w.cell? ⟨g, 3, none⟩ = some a3 ∧ w.cell? ⟨g, 4, none⟩ = some a4 ∧ w.cell? ⟨g, 5, none⟩ = some a5 ∧ w.cell? ⟨g, 6, none⟩ = some a6 ∧ w.cell? ⟨g, 7, none⟩ = some a7 ∧ w.cell? ⟨g, 8, none⟩ = some a8 ∧ w.cell? ⟨g, 9, none⟩ = some a9 ∧ w.cell? ⟨g, 10, none⟩ = some a10 ∧ w.cell? ⟨g, 11, none⟩ = some a11 ∧ w.cell? ⟨g, 12, none⟩ = some a12 ∧ w.cell? ⟨g, 13, none⟩ = some a13 := ⟨h.cell rfl, h.cell rfl, h.cell rfl, h.cell rfl, h.cell rfl, h.cell rfl, h.cell rfl, h.cell rfl, h.cell rfl, h.cell rfl, h.cell rfl, h.cell rfl, h.cell rfl, h.cell rfl⟩
theorem cells5 {w : World} {g : Nat} {T : TypeId} {a0 a1 a2 a3 a4 : Value} (h : Blk w g #[a0, a1, a2, a3, a4] T) : w.cell? ⟨g, 0, none⟩ = some a0 ∧ w.cell? ⟨g, 1, none⟩ = some a1 ∧ w.cell? ⟨g, 2, none⟩ = some a2 ∧ w.cell? ⟨g, 3, none⟩ = some a3 ∧ w.cell? ⟨g, 4, none⟩ = some a4 := ⟨h.cell rfl, h.cell rfl, h.cell rfl, h.cell rfl, h.cell rfl⟩
end Go.Proofs.Ytmfcbfgijimliaa
end
section
namespace Go.Proofs.Ytmfcbfgijimliaa
open Go.RowKit Go.Maps Q Go.Proofs.YtmfcbfgijimliaaW.PrintWords Go.Proofs.YtmfcbfgijimliaaW.PrintLast Go.Proofs.YtmfcbfgijimliaaW.PrintMore
def inB (n m : Int) : Bool := decide (0 ≤ n) && decide (n ≤ m)
theorem in_calls (n m : Int) (w : World) : Calls Try.prog 51 #[.int .i64 n, .int .i64 m] w fun e w' => e = .returned (.bool (inB n m)) ∧ Below w.heap.size w w' := by
  have h : record_in.f n m = some (inB n m) := by
    unfold record_in.f inB
    by_cases h : n ≥ 0
    · rw [if_pos h, decide_eq_true (p := 0 ≤ n) h]; rfl
    · rw [if_neg h, decide_eq_false (p := 0 ≤ n) h]; rfl
  refine (record_in.calls n m _ w h).mono ?_
  rintro e w' ⟨rfl, hd⟩
  exact ⟨rfl, hd.below⟩
def locOk (x : S83) : Bool := inB x.f0 11 && inB x.f1 47
def keysL (l : List S83) (k : Nat) : List Lit := (l.take k).map fun x => .int .i64 x.f0
def Sv (l : List S83) (k : Nat) : DataW Unit := setOf (.agg []) (keysL l k)
theorem keysL_succ (l : List S83) (k : Nat) (hk : k < l.length) : keysL l (k + 1) = keysL l k ++ [.int .i64 (rd_T83 l k).f0] := by
  unfold keysL rd_T83
  rw [List.take_add_one, List.map_append]
  simp [List.getD, List.getElem?_eq_getElem hk]
theorem Sv_succ (l : List S83) (k : Nat) (hk : k < l.length) : Sv l (k + 1) = (Sv l k).put (.int .i64 (rd_T83 l k).f0) (.agg []) := by
  unfold Sv
  rw [keysL_succ l k hk, setOf_snoc]
theorem Sv_zero (l : List S83) : Sv l 0 = .map [] := by simp [Sv, keysL, setOf]
def volP (id gen len : Int) (l : List S83) : Bool := l.all locOk && (inB id 1099511627776 && (inB gen 1099511627776 && (inB len 384 && (decide ((l.length : Int) = 9) && decide ((Maps.size (Sv l l.length) : Int) = 9)))))
theorem own_below {P : Program} {H : Type} {k : TypeId} {R : Value → Option (DataW H × List MemPlace)} {b n : Nat} {D : DataW H} {w w' : World} (h : w.ownsMap P k R b n D) (hb : Below w.heap.size w w') : w'.ownsMap P k R b n D := by
  have hlt := h.lt
  obtain ⟨es, clock, h0, F⟩ := h
  exact ⟨es, clock, (hb.block _ hlt).trans h0, F⟩
theorem lawI : Keyed Try.prog 3 := int_keyed Try.underlying3
theorem all_step (l : List S83) (k : Nat) (hk : k < l.length) : (l.take (k + 1)).all locOk = ((l.take k).all locOk && locOk (rd_T83 l k)) := by
  have : l.take (k + 1) = l.take k ++ [rd_T83 l k] := by
    unfold rd_T83
    rw [List.take_add_one]
    simp [List.getD, List.getElem?_eq_getElem hk]
  rw [this, List.all_append]
  simp
theorem all_bad (l : List S83) (k : Nat) (hk : k < l.length) (h : locOk (rd_T83 l k) = false) : l.all locOk = false := by
  have h1 := all_step l k hk
  rw [h, Bool.and_false] at h1
  rw [← List.take_append_drop (k + 1) l, List.all_append, h1, Bool.false_and]
set_option maxHeartbeats 2000000 in
set_option maxRecDepth 100000 in
theorem vol_calls (id gen len : Int) (A : Option Addr) (n c : Nat) (l : List S83) (w : World) (hr : Kd.C k83 w A n l) (hn : n = l.length) (hb : l.length ≤ 1000) : Calls Try.prog 52 #[.agg #[.int .i64 id, .int .i64 gen, .int .i64 len, .slice A n c]] w fun e w' => e = .returned (.bool (volP id gen len l)) ∧ Below w.heap.size w w' := by
  subst hn
  have hmm := @run_makeMap Try.prog
  have hu := Try.underlying29
  have hu23 := Try.underlying83
  have hs : ((w.alloc (.cells #[.int .i64 id, .int .i64 gen, .int .i64 len, .slice A l.length c] 29)).alloc (.map #[] 0)).heap.size = w.heap.size + 1 + 1 := by rw [World.size_alloc, World.size_alloc]
  have HV : Aside0 (Blk ((w.alloc (.cells #[.int .i64 id, .int .i64 gen, .int .i64 len, .slice A l.length c] 29)).alloc (.map #[] 0)) w.heap.size #[.int .i64 id, .int .i64 gen, .int .i64 len, .slice A l.length c] 29) := ⟨(Blk.new w _ _).alloc _⟩
  have HB : Aside0 (Below w.heap.size w ((w.alloc (.cells #[.int .i64 id, .int .i64 gen, .int .i64 len, .slice A l.length c] 29)).alloc (.map #[] 0))) := ⟨below_alloc (below_alloc (Below.refl _ _) _) _⟩
  have HO : Aside0 (((w.alloc (.cells #[.int .i64 id, .int .i64 gen, .int .i64 len, .slice A l.length c] 29)).alloc (.map #[] 0)).ownsMap Try.prog 3 (unitElem (H := Unit)) (w.heap.size + 1) 0 (Sv l 0)) := ⟨by rw [Sv_zero]; have := World.ownsMap_made (w.alloc (.cells #[.int .i64 id, .int .i64 gen, .int .i64 len, .slice A l.length c] 29)) Try.prog 3 (unitElem (H := Unit)); rwa [World.size_alloc] at this⟩
  have HSZ := Lib.hid hs
  clear hs
  go_enter Try.func52, Try.ntmps52
  go_wp2_with fail
  generalize ((w.alloc (.cells #[.int .i64 id, .int .i64 gen, .int .i64 len, .slice A l.length c] 29)).alloc (.map #[] 0)) = W0 at HV HB HO HSZ ⊢
  go_loopw [10] (fun i wr => ∃ k : Nat, k ≤ l.length ∧ i = .int .i64 k ∧ Aside0 ((l.take k).all locOk = true) ∧ Aside0 (wr.ownsMap Try.prog 3 (unitElem (H := Unit)) (w.heap.size + 1) k (Sv l k)) ∧ Aside0 (Blk wr w.heap.size #[.int .i64 id, .int .i64 gen, .int .i64 len, .slice A l.length c] 29) ∧ Aside0 (Below w.heap.size w wr) ∧ Aside0 (w.heap.size + 2 ≤ wr.heap.size)) (fun i _ => l.length - (intOf i).toNat)
  case atStart => exact ⟨0, Nat.zero_le _, rfl, ⟨rfl⟩, HO, HV, HB, ⟨by rw [HSZ.out]; omega⟩⟩
  case round =>
    clear HO HV HB
    obtain ⟨k, hk, rfl, HA, HO, HV, HB, HZ⟩ := hrel
    by_cases hlt : k < l.length
    · obtain ⟨ad, hA, k0, k1⟩ := at_T83 hr k (by omega) (by omega)
      rw [Int.toNat_natCast] at k0 k1
      have hK : (ad.add (k * 2)).block < w.heap.size := lt_cell k0
      have e0 := (HB.out.cell hK).trans k0
      have e1 := (HB.out.cell (lt_cell k1)).trans k1
      clear k0 k1
      subst hA
      have hkl : k < l.length := by omega
      have HX := Aside0.mk (Blk.new wr #[.int .i64 (rd_T83 l k).f0, .int .i64 (rd_T83 l k).f1] 83)
      replace HV := Aside0.mk (HV.out.alloc (.cells #[.int .i64 (rd_T83 l k).f0, .int .i64 (rd_T83 l k).f1] 83))
      replace HB := Aside0.mk (below_alloc HB.out (.cells #[.int .i64 (rd_T83 l k).f0, .int .i64 (rd_T83 l k).f1] 83))
      replace HO := Aside0.mk (HO.out.alloc (.cells #[.int .i64 (rd_T83 l k).f0, .int .i64 (rd_T83 l k).f1] 83))
      cases hb0 : inB (rd_T83 l k).f0 11 with
      | false =>
        have HF := Lib.hid (show volP id gen len l = false by unfold volP; rw [all_bad l k hkl (by unfold locOk; rw [hb0]; rfl)]; rfl)
        go_wp2_with fail
        refine (in_calls _ _ _).mono ?_
        rintro e w1 ⟨rfl, b1⟩
        rw [hb0]
        replace HB := Aside0.mk (below2 HB.out HB.out.size b1)
        replace HV := Aside0.mk (HV.out.keep b1)
        replace HO := Aside0.mk (own_below HO.out b1)
        replace HZ := Aside0.mk (Nat.le_trans HZ.out (Nat.le_trans (by rw [World.size_alloc]; omega) b1.size))
        replace HX := Aside0.mk (HX.out.keep b1)
        clear b1
        go_wp2_with fail
        go_ret
        exact ⟨by rw [HF.out]; rfl, HB.out⟩
      | true =>
        cases hb1 : inB (rd_T83 l k).f1 47 with
        | false =>
          have HF := Lib.hid (show volP id gen len l = false by unfold volP; rw [all_bad l k hkl (by unfold locOk; rw [hb0, hb1]; rfl)]; rfl)
          go_wp2_with fail
          refine (in_calls _ _ _).mono ?_
          rintro e w1 ⟨rfl, b1⟩
          rw [hb0]
          replace HB := Aside0.mk (below2 HB.out HB.out.size b1)
          replace HV := Aside0.mk (HV.out.keep b1)
          replace HO := Aside0.mk (own_below HO.out b1)
          replace HZ := Aside0.mk (Nat.le_trans HZ.out (Nat.le_trans (by rw [World.size_alloc]; omega) b1.size))
          replace HX := Aside0.mk (HX.out.keep b1)
          clear b1
          have d0 := HX.out.cell (i := 0) (v := .int .i64 (rd_T83 l k).f0) rfl
          have d1 := HX.out.cell (i := 1) (v := .int .i64 (rd_T83 l k).f1) rfl
          go_wp2_with fail
          clear d0 d1
          refine (in_calls _ _ _).mono ?_
          rintro e w2 ⟨rfl, b1⟩
          rw [hb1]
          replace HB := Aside0.mk (below2 HB.out HB.out.size b1)
          replace HV := Aside0.mk (HV.out.keep b1)
          replace HO := Aside0.mk (own_below HO.out b1)
          replace HZ := Aside0.mk (Nat.le_trans HZ.out b1.size)
          replace HX := Aside0.mk (HX.out.keep b1)
          clear b1
          go_wp2_with fail
          go_ret
          exact ⟨by rw [HF.out]; rfl, HB.out⟩
        | true =>
          have HA2 := Aside0.mk (show (l.take (k + 1)).all locOk = true by rw [all_step l k hkl, HA.out]; unfold locOk; rw [hb0, hb1]; rfl)
          have hkey := Aside0.mk (show keyOf Try.prog 3 (.int .i64 (rd_T83 l k).f0) = some (.int .i64 (rd_T83 l k).f0) from keyOf_int_mk Try.underlying3 (by unfold inB at hb0; rw [Bool.and_eq_true, decide_eq_true_eq, decide_eq_true_eq] at hb0; simp [Lit.wf, IntKind.min, IntKind.max, IntKind.signed, IntKind.bits]; omega))
          go_wp2_with fail
          refine (in_calls _ _ _).mono ?_
          rintro e w1 ⟨rfl, b1⟩
          rw [hb0]
          replace HB := Aside0.mk (below2 HB.out HB.out.size b1)
          replace HV := Aside0.mk (HV.out.keep b1)
          replace HO := Aside0.mk (own_below HO.out b1)
          replace HZ := Aside0.mk (Nat.le_trans HZ.out (Nat.le_trans (by rw [World.size_alloc]; omega) b1.size))
          replace HX := Aside0.mk (HX.out.keep b1)
          clear b1
          have d0 := HX.out.cell (i := 0) (v := .int .i64 (rd_T83 l k).f0) rfl
          have d1 := HX.out.cell (i := 1) (v := .int .i64 (rd_T83 l k).f1) rfl
          go_wp2_with fail
          clear d0 d1
          refine (in_calls _ _ _).mono ?_
          rintro e w2 ⟨rfl, b1⟩
          rw [hb1]
          replace HB := Aside0.mk (below2 HB.out HB.out.size b1)
          replace HV := Aside0.mk (HV.out.keep b1)
          replace HO := Aside0.mk (own_below HO.out b1)
          replace HZ := Aside0.mk (Nat.le_trans HZ.out b1.size)
          replace HX := Aside0.mk (HX.out.keep b1)
          clear b1
          have d0 := HX.out.cell (i := 0) (v := .int .i64 (rd_T83 l k).f0) rfl
          have hkm := Aside0.mk (show k < maxLen by unfold maxLen; omega)
          go_wp2_with (at_mapUpdate; refine wpList_mapUpdate_own _ rfl _ _ _ 117 rfl 3 118 lawI Try.underlying117 (unitElem (H := Unit)) (w.heap.size + 1) k _ rfl HO.out hkm.out _ _ _ rfl rfl hkey.out _ [] unitElem_mk ?_; intro w9 hown1 hgrow1)
          go_roundw
          case rel =>
            refine ⟨k + 1, by omega, by go_num, HA2, ⟨by rw [Sv_succ l k hkl]; exact hown1⟩, ⟨blk_grown HV.out hgrow1 (by simp)⟩, ⟨HB.out.grown hgrow1 HB.out.size (fun j hj => by cases hj; omega)⟩, ⟨Nat.le_trans HZ.out hgrow1.size⟩⟩
          case measure => simp [intOf]; omega
    · obtain rfl : k = l.length := by omega
      have hall : l.all locOk = true := by rw [← HA.out, List.take_of_length_le (Nat.le_refl _)]
      have HF := Lib.hid (show volP id gen len l = _ by unfold volP; rw [hall])
      clear HA hall
      have HLT := Lib.hid hlt
      have v0 := HV.out.cell (i := 0) (v := .int .i64 id) rfl
      go_wp2_with fail
      cases hc0 : inB id 1099511627776 with
      | false =>
        clear v0
        refine (in_calls _ _ _).mono ?_
        rintro e w3 ⟨rfl, b1⟩
        rw [hc0]
        replace HB := Aside0.mk (below2 HB.out HB.out.size b1)
        replace HV := Aside0.mk (HV.out.keep b1)
        replace HO := Aside0.mk (own_below HO.out b1)
        clear b1
        go_wp2_with fail
        go_ret
        exact ⟨by rw [HF.out, hc0]; rfl, HB.out⟩
      | true =>
        clear v0
        refine (in_calls _ _ _).mono ?_
        rintro e w3 ⟨rfl, b1⟩
        rw [hc0]
        replace HB := Aside0.mk (below2 HB.out HB.out.size b1)
        replace HV := Aside0.mk (HV.out.keep b1)
        replace HO := Aside0.mk (own_below HO.out b1)
        clear b1
        have v0 := HV.out.cell (i := 1) (v := .int .i64 gen) rfl
        go_wp2_with fail
        cases hc1 : inB gen 1099511627776 with
        | false =>
          clear v0
          refine (in_calls _ _ _).mono ?_
          rintro e w4 ⟨rfl, b1⟩
          rw [hc1]
          replace HB := Aside0.mk (below2 HB.out HB.out.size b1)
          replace HV := Aside0.mk (HV.out.keep b1)
          replace HO := Aside0.mk (own_below HO.out b1)
          clear b1
          go_wp2_with fail
          go_ret
          exact ⟨by rw [HF.out, hc0, hc1]; rfl, HB.out⟩
        | true =>
          clear v0
          refine (in_calls _ _ _).mono ?_
          rintro e w4 ⟨rfl, b1⟩
          rw [hc1]
          replace HB := Aside0.mk (below2 HB.out HB.out.size b1)
          replace HV := Aside0.mk (HV.out.keep b1)
          replace HO := Aside0.mk (own_below HO.out b1)
          clear b1
          have v0 := HV.out.cell (i := 2) (v := .int .i64 len) rfl
          go_wp2_with fail
          cases hc2 : inB len 384 with
          | false =>
            clear v0
            refine (in_calls _ _ _).mono ?_
            rintro e w5 ⟨rfl, b1⟩
            rw [hc2]
            replace HB := Aside0.mk (below2 HB.out HB.out.size b1)
            replace HV := Aside0.mk (HV.out.keep b1)
            replace HO := Aside0.mk (own_below HO.out b1)
            clear b1
            go_wp2_with fail
            go_ret
            exact ⟨by rw [HF.out, hc0, hc1, hc2]; rfl, HB.out⟩
          | true =>
            clear v0
            refine (in_calls _ _ _).mono ?_
            rintro e w5 ⟨rfl, b1⟩
            rw [hc2]
            replace HB := Aside0.mk (below2 HB.out HB.out.size b1)
            replace HV := Aside0.mk (HV.out.keep b1)
            replace HO := Aside0.mk (own_below HO.out b1)
            clear b1
            have v0 := HV.out.cell (i := 3) (v := .slice A l.length c) rfl
            obtain ⟨m, hm⟩ : ∃ m, Maps.size (Sv l l.length) = m := ⟨_, rfl⟩
            by_cases h9 : (l.length : Int) = 9
            · have f9 : ((l.length : Int) == 9) = true := by simpa using h9
              by_cases h8 : (m : Int) = 9
              · have f8 : ((m : Int) == 9) = true := by simpa using h8
                replace HF := Lib.hid (HF.out.trans (show _ = true by rw [hc0, hc1, hc2, decide_eq_true h9, hm, decide_eq_true h8]; rfl))
                clear h9 h8
                go_wp2_with (at_len; refine gate_guard (by rfl) ?_; refine wpList_len_own _ rfl _ 117 rfl 3 118 Try.underlying117 _ (w.heap.size + 1) l.length _ rfl HO.out ?_; rw [hm])
                go_ret
                exact ⟨by rw [HF.out]; rfl, HB.out⟩
              · have f8 : ((m : Int) == 9) = false := by simpa using h8
                replace HF := Lib.hid (HF.out.trans (show _ = false by rw [hc0, hc1, hc2, decide_eq_true h9, hm, decide_eq_false h8]; rfl))
                clear h9 h8
                go_wp2_with (at_len; refine gate_guard (by rfl) ?_; refine wpList_len_own _ rfl _ 117 rfl 3 118 Try.underlying117 _ (w.heap.size + 1) l.length _ rfl HO.out ?_; rw [hm])
                go_ret
                exact ⟨by rw [HF.out]; rfl, HB.out⟩
            · have f9 : ((l.length : Int) == 9) = false := by simpa using h9
              replace HF := Lib.hid (HF.out.trans (show _ = false by rw [hc0, hc1, hc2, decide_eq_false h9]; rfl))
              clear h9 hm
              go_wp2_with fail
              go_ret
              exact ⟨by rw [HF.out]; rfl, HB.out⟩
end Go.Proofs.Ytmfcbfgijimliaa
end
section
namespace Go.Proofs.Ytmfcbfgijimliaa
open Go.RowKit Q Go.Proofs.YtmfcbfgijimliaaW.PrintWords Go.Proofs.YtmfcbfgijimliaaW.PrintLast
structure RecP where
  seq : Int
  kind : Int
  id : Int
  gen : Int
  len : Int
  locs : List S83
  ekey : ByteArray
  evol : Int
  eoff : Int
  elen : Int
  dig : ByteArray
  key : ByteArray
  frm : Int
  til : Int
def locsEq : List S83 → List S83 → Bool
  | [], [] => true
  | x :: xs, y :: ys => ((x.f0 == y.f0) && (x.f1 == y.f1)) && locsEq xs ys
  | _, _ => false
theorem locsEq_iff : ∀ a b : List S83, locsEq a b = true ↔ a = b
  | [], [] => by simp [locsEq]
  | [], _ :: _ => by simp [locsEq]
  | _ :: _, [] => by simp [locsEq]
  | ⟨x0, x1⟩ :: xs, ⟨y0, y1⟩ :: ys => by
    have ih := locsEq_iff xs ys
    simp [locsEq, ih]
def sameB (a b : RecP) : Bool := decide (a.seq = b.seq) && (decide (a.kind = b.kind) && (decide (a.id = b.id) && (decide (a.gen = b.gen) && (decide (a.len = b.len) && (locsEq a.locs b.locs && ((a.ekey.toList == b.ekey.toList && (a.evol == b.evol && (a.eoff == b.eoff && (a.elen == b.elen && (a.dig.toList == b.dig.toList))))) && (decide (a.key.toList = b.key.toList) && (decide (a.frm = b.frm) && (a.til == b.til)))))))))
theorem bytes_iff (a b : ByteArray) : a.toList = b.toList ↔ a = b := ⟨eq_of_toList, fun h => by rw [h]⟩
theorem sameB_iff (a b : RecP) : sameB a b = true ↔ a = b := by
  obtain ⟨a0, a1, a2, a3, a4, a5, a6, a7, a8, a9, a10, a11, a12, a13⟩ := a
  obtain ⟨b0, b1, b2, b3, b4, b5, b6, b7, b8, b9, b10, b11, b12, b13⟩ := b
  unfold sameB
  simp only [Bool.and_eq_true, decide_eq_true_eq, beq_iff_eq, locsEq_iff, bytes_iff, RecP.mk.injEq]
  constructor
  · rintro ⟨h0, h1, h2, h3, h4, h5, ⟨h6, h7, h8, h9, h10⟩, h11, h12, h13⟩
    exact ⟨h0, h1, h2, h3, h4, h5, h6, h7, h8, h9, h10, h11, h12, h13⟩
  · rintro ⟨h0, h1, h2, h3, h4, h5, h6, h7, h8, h9, h10, h11, h12, h13⟩
    exact ⟨h0, h1, h2, h3, h4, h5, ⟨h6, h7, h8, h9, h10⟩, h11, h12, h13⟩
instance : DecidableEq RecP := fun a b => decidable_of_iff (sameB a b = true) (sameB_iff a b)
theorem drop_cons' (l : List S83) (i : Nat) (h : i < l.length) : l.drop i = rd_T83 l i :: l.drop (i + 1) := by
  unfold rd_T83
  rw [List.drop_eq_getElem_cons h]
  simp [List.getD, List.getElem?_eq_getElem h]
theorem wrap_s (i : Nat) (h : i ≤ 1000) : wrap64 ((i : Int) + 1) = ((i + 1 : Nat) : Int) := by unfold wrap64; omega
theorem locs_loop (a b : List S83) (hl : a.length = b.length) (h1 : a.length ≤ 1000) (d : Nat) : ∀ (i k : Nat), a.length - i = d → i ≤ a.length → d < k → api_Loc.l0 k a b (a.length : Int) (i : Int) = some (locsEq (a.drop i) (b.drop i)) := by
  induction d with
  | zero =>
    intro i k hd hi hk
    obtain ⟨k, rfl⟩ : ∃ m, k = m + 1 := ⟨k - 1, by omega⟩
    have : i = a.length := by omega
    subst this
    simp only [api_Loc.l0]
    rw [if_neg (by omega), List.drop_of_length_le (Nat.le_refl _), List.drop_of_length_le (by omega)]
    rfl
  | succ d ih =>
    intro i k hd hi hk
    obtain ⟨k, rfl⟩ : ∃ m, k = m + 1 := ⟨k - 1, by omega⟩
    simp only [api_Loc.l0]
    rw [if_pos (by omega), if_pos (by omega), if_pos (by omega), if_pos (by omega), drop_cons' a i (by omega), drop_cons' b i (by omega), wrap_s i (by omega), ih (i + 1) k (by omega) (by omega) (by omega)]
    simp only [locsEq]
    cases (rd_T83 a i).f0 == (rd_T83 b i).f0 <;> cases (rd_T83 a i).f1 == (rd_T83 b i).f1 <;> simp
theorem locsEq_len : ∀ a b : List S83, a.length ≠ b.length → locsEq a b = false := by
  intro a b h
  cases hq : locsEq a b with
  | false => rfl
  | true => exact absurd (by rw [(locsEq_iff a b).1 hq]) h
theorem locs_f (a b : List S83) (h1 : a.length ≤ 1000) (k : Nat) (hk : 1001 ≤ k) : api_Loc.f k a b = some (locsEq a b) := by
  unfold api_Loc.f
  by_cases h : (a.length : Int) = (b.length : Int)
  · rw [if_pos h]
    exact locs_loop a b (by omega) h1 _ 0 k rfl (Nat.zero_le _) (by omega)
  · rw [if_neg h, locsEq_len a b (by omega)]
end Go.Proofs.Ytmfcbfgijimliaa
end
