/- The package digest told as plain functions: one block; and the walk's small facts. -/
import Derived.Test.YtaobnbmpeplefaaQx1
import Derived.Test.YtaobnbmpeplefaaQTail
import Derived.Test.YtaobnbmpeplefaaBuilder
import Derived.Laws.BitsLemmas
namespace Go.Proofs.Ytaobnbmpeplefaa
open Go.RowKit Q Go.Proofs.YtaobnbmpeplefaaW.PrintWords Go.Proofs.YtaobnbmpeplefaaW.PrintLast Go.Proofs.YtaobnbmpeplefaaW.PrintMore
/-- A row of numbers, as cells. -/
def arr (k : IntKind) (xs : List Int) : Array Value := (xs.map (Value.int k)).toArray
theorem arr_set (k : IntKind) (xs : List Int) (i : Nat) (v : Int) : (arr k xs).setIfInBounds i (.int k v) = arr k (xs.set i v) := by
  simp [arr, List.map_set]
theorem arr_get (k : IntKind) (xs : List Int) (i : Nat) (_h : i < xs.length) : (arr k xs)[i]? = some (.int k (xs.getD i 0)) := by
  simp [arr, _h, List.getD_eq_getElem?_getD]
theorem arr_size (k : IntKind) (xs : List Int) : (arr k xs).size = xs.length := by simp [arr]
theorem arr_one (k : IntKind) (xs : List Int) : (arr k xs).all (·.oneCell') = true := by
  simp [arr, Value.oneCell']
def zs (n : Nat) : List Int := List.replicate n 0
/-- A word turned to the right. -/
def rr (x n : Int) : Int := Go.bits .or .u32 (shr .u32 x n) (shl .u32 x (wrap64 (32 - n)))
theorem right_f (x n : Int) (h0 : 0 ≤ n) (h1 : n ≤ 32) : digest_right.f x n = some (rr x n) := by
  unfold digest_right.f rr
  have e : wrap64 (32 - n) = 32 - n := by unfold wrap64; omega
  rw [if_pos h0, if_pos (by omega)]
theorem right_q (x n : Int) (h0 : 0 ≤ n) (h1 : n ≤ 32) (w : World) (k : Nat) : Calls Try.prog 28 #[.int .u32 x, .int .i64 n] (w.drewN k) fun e w'' => e = .returned (.int .u32 (rr x n)) ∧ ∃ m, w'' = w.drewN m := by
  refine Calls.quiet_of ((digest_right.calls x n _ _ (right_f x n h0 h1)).mono ?_)
  rintro e w' ⟨rfl, d⟩
  exact ⟨rfl, d.out⟩
/-- The words of a block: the first sixteen, byte by byte. -/
def byteAt (s : ByteArray) (k : Nat) : Int := ((s.data.toList.getD k 0).toNat : Int)
def acc (b : ByteArray) (i : Nat) : Nat → Int
  | 0 => 0
  | j + 1 => Go.bits .or .u32 (acc b i j * 256 % 4294967296) (byteAt b (4 * i + j))
def sg0 (x : Int) : Int := Go.bits .xor .u32 (Go.bits .xor .u32 (rr x 7) (rr x 18)) (x / 8)
def sg1 (x : Int) : Int := Go.bits .xor .u32 (Go.bits .xor .u32 (rr x 17) (rr x 19)) (x / 1024)
def wAt (b : ByteArray) (xs : List Int) (i : Nat) : Int :=
  if i < 16 then acc b i 4 else (xs.getD (i - 16) 0 + xs.getD (i - 7) 0 + sg0 (xs.getD (i - 15) 0) + sg1 (xs.getD (i - 2) 0)) % 4294967296
def wl (b : ByteArray) : Nat → List Int
  | 0 => zs 64
  | i + 1 => (wl b i).set i (wAt b (wl b i) i)
theorem wl_len (b : ByteArray) (i : Nat) : (wl b i).length = 64 := by
  induction i with
  | zero => exact List.length_replicate
  | succ i ih => rw [wl, List.length_set, ih]
theorem wl_zero (b : ByteArray) (i : Nat) : ∀ j, i ≤ j → j < 64 → (wl b i)[j]? = some 0 := by
  induction i with
  | zero => intro j _ hj; rw [wl, zs, List.getElem?_replicate, if_pos hj]
  | succ i ih => intro j hij hj; rw [wl, List.getElem?_set, if_neg (by omega)]; exact ih j (by omega) hj
theorem wl_set_zero (b : ByteArray) (i : Nat) (h : i < 64) : (wl b i).set i 0 = wl b i := by
  have := wl_zero b i i (Nat.le_refl _) h
  apply List.ext_getElem?
  intro j
  rw [List.getElem?_set]
  split
  · rename_i e; subst e; rw [wl_len, if_pos h, this]
  · rfl
theorem byteAt_rng (s : ByteArray) (k : Nat) : 0 ≤ byteAt s k ∧ byteAt s k ≤ 255 := by
  unfold byteAt
  have := (s.data.toList.getD k 0).toNat_lt
  omega
theorem byteAt_eq (s : ByteArray) (k : Nat) (h : k < s.size) : byteAt s k = ((s[k]'h).toNat : Int) := by
  have h' : k < s.data.size := h
  have e : s.data.toList.getD k 0 = s[k]'h := by
    rw [List.getD_eq_getElem?_getD, List.getElem?_eq_getElem (by simpa using h')]; rfl
  unfold byteAt
  rw [e]
theorem index_at (b : ByteArray) (n : Int) (k : Nat) (hn : n = (k : Int)) (hk : k < b.size) (W : World) : (Instr.index 9 (.string b) (.int .i64 n)).run Try.prog W = .ok (.int .u8 (byteAt b k)) W := by
  subst hn
  rw [run_index_string W 9 b .i64 (k : Int) Try.underlying9, dif_pos (by omega), byteAt_eq b k hk]
  rfl
/-- The eight words, and one round on them. -/
structure V8 where
  a : Int
  b : Int
  c : Int
  d : Int
  e : Int
  f : Int
  g : Int
  h : Int
def V8.l (x : V8) : List Int := [x.a, x.b, x.c, x.d, x.e, x.f, x.g, x.h]
def tt (e f g h k w : Int) : Int :=
  ((h + Go.bits .xor .u32 (Go.bits .xor .u32 (rr e 6) (rr e 11)) (rr e 25) + Go.bits .xor .u32 g (Go.bits .and .u32 e (Go.bits .xor .u32 f g)) + k) % 4294967296 + w) % 4294967296
def uu (a b c : Int) : Int :=
  (Go.bits .xor .u32 (Go.bits .xor .u32 (rr a 2) (rr a 13)) (rr a 22) + Go.bits .or .u32 (Go.bits .and .u32 a b) (Go.bits .and .u32 c (Go.bits .or .u32 a b))) % 4294967296
def stp (x : V8) (k w : Int) : V8 :=
  ⟨(tt x.e x.f x.g x.h k w + uu x.a x.b x.c) % 4294967296, x.a, x.b, x.c, (x.d + tt x.e x.f x.g x.h k w) % 4294967296, x.e, x.f, x.g⟩
def cv (x : V8) (K W : List Int) : Nat → V8
  | 0 => x
  | i + 1 => stp (cv x K W i) (K.getD i 0) (W.getD i 0)
def ad (s v : List Int) : Nat → List Int
  | 0 => s
  | i + 1 => (ad s v i).set i (((ad s v i).getD i 0 + v.getD i 0) % 4294967296)
theorem ad_len (s v : List Int) (i : Nat) : (ad s v i).length = s.length := by
  induction i with
  | zero => rfl
  | succ i ih => rw [ad, List.length_set, ih]
/-- The state behind one more block. -/
def wlAll (b : ByteArray) : List Int := wl b 64
def blk (K : List Int) (x : V8) (b : ByteArray) : List Int := ad x.l (cv x K (wlAll b) 64).l 8
theorem zero64 (w : World) : (zeroValue 58).run Try.prog w = .ok (.agg (arr .u32 (zs 64))) w := by kernel_rfl
theorem zero8 (w : World) : (zeroValue 46).run Try.prog w = .ok (.agg (arr .u32 (zs 8))) w := by kernel_rfl
end Go.Proofs.Ytaobnbmpeplefaa
