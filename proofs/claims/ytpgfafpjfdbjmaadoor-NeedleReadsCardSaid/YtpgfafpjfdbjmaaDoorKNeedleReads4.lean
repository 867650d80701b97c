/- Lemmas for the law NeedleReads, merged out of several texts and cut down to what it names, by a program of this session (some of the first ones are of the words that print.sh wrote for this claim). -/
import Derived.Laws.BitsLemmas
import Derived.Deep.WholeRow
import Derived.Deep.MidRow
import Derived.Test.YtpgfafpjfdbjmaaDoorProg
import Derived.WalkKit
import Derived.Lib.Hide
import Derived.Lib.FrozenHead2
import Derived.Lib.ConvBytes
import Derived.Laws.BytesArg
import Derived.Laws.BytesString
import Derived.Laws.IdiomStrings
import Derived.Below
import Derived.Test.YtpgfafpjfdbjmaaDoorKNeedleReads1
import Derived.Test.YtpgfafpjfdbjmaaDoorKNeedleReads2
import Derived.Test.YtpgfafpjfdbjmaaDoorKNeedleReads3
set_option linter.unusedVariables false
set_option linter.unusedSimpArgs false
section
namespace Go.Proofs.YtpgfafpjfdbjmaaDoor
open Go.RowKit Q Go.Proofs.YtpgfafpjfdbjmaaDoorW.PrintWords Go.Proofs.YtpgfafpjfdbjmaaDoorW.PrintLast Go.Proofs.YtpgfafpjfdbjmaaDoorW.PrintMore
def arr (k : IntKind) (xs : List Int) : Array Value := (xs.map (Value.int k)).toArray
theorem arr_set (k : IntKind) (xs : List Int) (i : Nat) (v : Int) : (arr k xs).setIfInBounds i (.int k v) = arr k (xs.set i v) := by
  simp [arr, List.map_set]
theorem arr_get (k : IntKind) (xs : List Int) (i : Nat) (_h : i < xs.length) : (arr k xs)[i]? = some (.int k (xs.getD i 0)) := by
  simp [arr, _h, List.getD_eq_getElem?_getD]
theorem arr_size (k : IntKind) (xs : List Int) : (arr k xs).size = xs.length := by simp [arr]
theorem arr_one (k : IntKind) (xs : List Int) : (arr k xs).all (·.oneCell') = true := by
  simp [arr, Value.oneCell']
def zs (n : Nat) : List Int := List.replicate n 0
def rr (x n : Int) : Int := Go.bits .or .u32 (shr .u32 x n) (shl .u32 x (wrap64 (32 - n)))
theorem right_f (x n : Int) (h0 : 0 ≤ n) (h1 : n ≤ 32) : digest_right.f x n = some (rr x n) := by
  unfold digest_right.f rr
  have e : wrap64 (32 - n) = 32 - n := by unfold wrap64; omega
  rw [if_pos h0, if_pos (by omega)]
theorem right_q (x n : Int) (h0 : 0 ≤ n) (h1 : n ≤ 32) (w : World) (k : Nat) : Calls Tryd.prog 86 #[.int .u32 x, .int .i64 n] (w.drewN k) fun e w'' => e = .returned (.int .u32 (rr x n)) ∧ ∃ m, w'' = w.drewN m := by
  refine Calls.quiet_of ((digest_right.calls x n _ _ (right_f x n h0 h1)).mono ?_)
  rintro e w' ⟨rfl, d⟩
  exact ⟨rfl, d.out⟩
def byteAt (s : ByteArray) (k : Nat) : Int := ((s.data.toList.getD k 0).toNat : Int)
def acc (b : ByteArray) (i : Nat) : Nat → Int
  | 0 => 0
  | j + 1 => Go.bits .or .u32 (acc b i j * 256 % 4294967296) (byteAt b (4 * i + j))
def sg0 (x : Int) : Int := Go.bits .xor .u32 (Go.bits .xor .u32 (rr x 7) (rr x 18)) (x / 8)
def sg1 (x : Int) : Int := Go.bits .xor .u32 (Go.bits .xor .u32 (rr x 17) (rr x 19)) (x / 1024)
def wAt (b : ByteArray) (xs : List Int) (i : Nat) : Int :=
  if i < 16 then acc b i 4 else (xs.getD (i - 16) 0 + xs.getD (i - 7) 0 + sg0 (xs.getD (i - 15) 0) + sg1 (xs.getD (i - 2) 0)) % 4294967296
def wl (b : ByteArray) : Nat → List Int
  | 0 => zs 64
  | i + 1 => (wl b i).set i (wAt b (wl b i) i)
theorem wl_len (b : ByteArray) (i : Nat) : (wl b i).length = 64 := by
  induction i with
  | zero => exact List.length_replicate
  | succ i ih => rw [wl, List.length_set, ih]
theorem wl_zero (b : ByteArray) (i : Nat) : ∀ j, i ≤ j → j < 64 → (wl b i)[j]? = some 0 := by
  induction i with
  | zero => intro j _ hj; rw [wl, zs, List.getElem?_replicate, if_pos hj]
  | succ i ih => intro j hij hj; rw [wl, List.getElem?_set, if_neg (by omega)]; exact ih j (by omega) hj
theorem wl_set_zero (b : ByteArray) (i : Nat) (h : i < 64) : (wl b i).set i 0 = wl b i := by
  have := wl_zero b i i (Nat.le_refl _) h
  apply List.ext_getElem?
  intro j
  rw [List.getElem?_set]
  split
  · rename_i e; subst e; rw [wl_len, if_pos h, this]
  · rfl
theorem byteAt_rng (s : ByteArray) (k : Nat) : 0 ≤ byteAt s k ∧ byteAt s k ≤ 255 := by
  unfold byteAt
  have := (s.data.toList.getD k 0).toNat_lt
  omega
theorem byteAt_eq (s : ByteArray) (k : Nat) (h : k < s.size) : byteAt s k = ((s[k]'h).toNat : Int) := by
  have h' : k < s.data.size := h
  have e : s.data.toList.getD k 0 = s[k]'h := by
    rw [List.getD_eq_getElem?_getD, List.getElem?_eq_getElem (by simpa using h')]; rfl
  unfold byteAt
  rw [e]
theorem index_at (b : ByteArray) (n : Int) (k : Nat) (hn : n = (k : Int)) (hk : k < b.size) (W : World) : (Instr.index 9 (.string b) (.int .i64 n)).run Tryd.prog W = .ok (.int .u8 (byteAt b k)) W := by
  subst hn
  rw [run_index_string W 9 b .i64 (k : Int) Tryd.underlying9, dif_pos (by omega), byteAt_eq b k hk]
  rfl
structure V8 where
  a : Int
  b : Int
  c : Int
  d : Int
  e : Int
  f : Int
  g : Int
  h : Int
def V8.l (x : V8) : List Int := [x.a, x.b, x.c, x.d, x.e, x.f, x.g, x.h]
def tt (e f g h k w : Int) : Int :=
  ((h + Go.bits .xor .u32 (Go.bits .xor .u32 (rr e 6) (rr e 11)) (rr e 25) + Go.bits .xor .u32 g (Go.bits .and .u32 e (Go.bits .xor .u32 f g)) + k) % 4294967296 + w) % 4294967296
def uu (a b c : Int) : Int :=
  (Go.bits .xor .u32 (Go.bits .xor .u32 (rr a 2) (rr a 13)) (rr a 22) + Go.bits .or .u32 (Go.bits .and .u32 a b) (Go.bits .and .u32 c (Go.bits .or .u32 a b))) % 4294967296
def stp (x : V8) (k w : Int) : V8 :=
  ⟨(tt x.e x.f x.g x.h k w + uu x.a x.b x.c) % 4294967296, x.a, x.b, x.c, (x.d + tt x.e x.f x.g x.h k w) % 4294967296, x.e, x.f, x.g⟩
def cv (x : V8) (K W : List Int) : Nat → V8
  | 0 => x
  | i + 1 => stp (cv x K W i) (K.getD i 0) (W.getD i 0)
def ad (s v : List Int) : Nat → List Int
  | 0 => s
  | i + 1 => (ad s v i).set i (((ad s v i).getD i 0 + v.getD i 0) % 4294967296)
theorem ad_len (s v : List Int) (i : Nat) : (ad s v i).length = s.length := by
  induction i with
  | zero => rfl
  | succ i ih => rw [ad, List.length_set, ih]
def wlAll (b : ByteArray) : List Int := wl b 64
def blk (K : List Int) (x : V8) (b : ByteArray) : List Int := ad x.l (cv x K (wlAll b) 64).l 8
theorem zero64 (w : World) : (zeroValue 132).run Tryd.prog w = .ok (.agg (arr .u32 (zs 64))) w := by kernel_rfl
theorem zero8 (w : World) : (zeroValue 115).run Tryd.prog w = .ok (.agg (arr .u32 (zs 8))) w := by kernel_rfl
end Go.Proofs.YtpgfafpjfdbjmaaDoor
end
section
namespace Go.Proofs.YtpgfafpjfdbjmaaDoor
open Go.RowKit Q Go.Proofs.YtpgfafpjfdbjmaaDoorW.PrintWords Go.Proofs.YtpgfafpjfdbjmaaDoorW.PrintLast Go.Proofs.YtpgfafpjfdbjmaaDoorW.PrintMore
def KL : List Int := [1116352408, 1899447441, 3049323471, 3921009573, 961987163, 1508970993, 2453635748, 2870763221, 3624381080, 310598401, 607225278, 1426881987, 1925078388, 2162078206, 2614888103, 3248222580, 3835390401, 4022224774, 264347078, 604807628, 770255983, 1249150122, 1555081692, 1996064986, 2554220882, 2821834349, 2952996808, 3210313671, 3336571891, 3584528711, 113926993, 338241895, 666307205, 773529912, 1294757372, 1396182291, 1695183700, 1986661051, 2177026350, 2456956037, 2730485921, 2820302411, 3259730800, 3345764771, 3516065817, 3600352804, 4094571909, 275423344, 430227734, 506948616, 659060556, 883997877, 958139571, 1322822218, 1537002063, 1747873779, 1955562222, 2024104815, 2227730452, 2361852424, 2428436474, 2756734187, 3204031479, 3329325298]
def H0 : List Int := [1779033703, 3144134277, 1013904242, 2773480762, 1359893119, 2600822924, 528734635, 1541459225]
theorem setRow_new (w : World) (c c' : Array Value) (t : TypeId) : (w.alloc (.cells c t)).setRow w.heap.size c' = w.alloc (.cells c' t) := World.setRow_alloc_new w c c' t
theorem KL_len : KL.length = 64 := by decide
theorem H0_len : H0.length = 8 := by decide
theorem zs_len (n : Nat) : (zs n).length = n := List.length_replicate
theorem size8 : (Tryd.prog.info? 115).map (·.size) = some 8 := by kernel_rfl
theorem size64 : (Tryd.prog.info? 132).map (·.size) = some 64 := by kernel_rfl
set_option maxRecDepth 100000 in
set_option maxHeartbeats 200000 in
theorem begin_calls (w : World) : Calls Tryd.prog 72 #[] w fun e w' => e = .returned (.agg (arr .u32 H0)) ∧ Below w.heap.size w w' := by
  have hz := zero8
  have hB : Hid (Below w.heap.size w (w.alloc (.cells (arr .u32 H0) 115))) := Lib.hid ((Below.refl _ _).alloc (Nat.le_refl _) _)
  go_enter Tryd.func72, Tryd.ntmps72
  go_wp2_with (refine gate_ (.store 115 (.tmp 0) (.tmp 1)) rfl ?_; refine wpList_plain rfl (fun K hK => ?_); refine wp_store_row 115 (.tmp 0) (.tmp 1) rfl w.heap.size (arr .u32 H0) rfl rfl 115 (arr .u32 (zs 8)) (heap_alloc_new w _) (by rw [arr_size, H0_len]; exact size8) (by rw [arr_size, arr_size, H0_len, zs_len]) (arr_one _ _) (hK _ _ ?_); rw [setRow_new]; clear hK K)
  refine bodyPost_ret (results_cell_row rfl _ _ w.heap.size 115 (arr .u32 H0) (0, 0) _ rfl (heap_alloc_new w _) Tryd.underlying115 rfl (by rw [arr_size, H0_len]; exact size8)) rfl ⟨rfl, hB.out⟩
theorem build_as {P : Program} {ops : Array Oper} {rest : List Oper} {o : Oper} {a : Act} {w : World} {Q : Exit → Act → World → Prop} (t : TypeId) (c : Array Value) (N : Option Tmp) (hN : o.dst = N) (hg : o.guard = none) (parts : Array (Nat × Operand)) (ho : o.op = .build t parts)
    (hf : P.built t (parts.map fun (i, x) => (i, a.eval x)).toList = some c) (h : wpList P ops Q rest (a.put N (.agg c)) w) : wpList P ops Q (o :: rest) a w := by
  subst hN
  refine wpList_build hg t parts ho (by rw [hf]; rfl) ?_
  rw [hf]
  exact h
set_option maxRecDepth 100000 in
set_option maxHeartbeats 400000 in
theorem constants_calls (w : World) : Calls Tryd.prog 87 #[] w fun e w' => e = .returned (.agg (arr .u32 KL)) ∧ Below w.heap.size w w' := by
  have hz := zero64
  have hB : Hid (Below w.heap.size w (w.alloc (.cells (arr .u32 KL) 132))) := Lib.hid ((Below.refl _ _).alloc (Nat.le_refl _) _)
  go_enter Tryd.func87, Tryd.ntmps87
  go_wp2_with (first | (refine build_as 132 (arr .u32 KL) (some 1) rfl rfl _ rfl (by kernel_rfl) ?_; simp only [Act.put, List.setIfInBounds_toArray, List.set_cons_zero, List.set_cons_succ]) | (refine gate_ (.store 132 (.tmp 0) (.tmp 1)) rfl ?_; refine wpList_plain rfl (fun K hK => ?_); refine wp_store_row 132 (.tmp 0) (.tmp 1) rfl w.heap.size (arr .u32 KL) rfl rfl 132 (arr .u32 (zs 64)) (heap_alloc_new w _) (by rw [arr_size, KL_len]; exact size64) (by rw [arr_size, arr_size, KL_len, zs_len]) (arr_one _ _) (hK _ _ ?_); rw [setRow_new]; clear hK K))
  refine bodyPost_ret (results_cell_row rfl _ _ w.heap.size 132 (arr .u32 KL) (0, 0) _ rfl (heap_alloc_new w _) Tryd.underlying132 rfl (by rw [arr_size, KL_len]; exact size64)) rfl ⟨rfl, hB.out⟩
end Go.Proofs.YtpgfafpjfdbjmaaDoor
end
section
namespace Go.Proofs.YtpgfafpjfdbjmaaDoor
open Go.RowKit Q Go.Proofs.YtpgfafpjfdbjmaaDoorW.PrintWords Go.Proofs.YtpgfafpjfdbjmaaDoorW.PrintLast Go.Proofs.YtpgfafpjfdbjmaaDoorW.PrintMore
attribute [local go_sem] arr_set
def Row (w : World) (g : Nat) (T : TypeId) (xs : List Int) : Prop := w.heap[g]? = some (.cells (arr .u32 xs) T (0, 0))
theorem Row.cell {w : World} {g : Nat} {T : TypeId} {xs : List Int} (h : Row w g T xs) (i : Nat) (hi : i < xs.length) : w.cell? ⟨g, i, none⟩ = some (.int .u32 (xs.getD i 0)) := by
  rw [Lib.cell_of_heap h, arr_get _ _ _ hi]
theorem Row.frozen {w : World} {g : Nat} {T : TypeId} {xs : List Int} (h : Row w g T xs) (i : Nat) : w.frozen? ⟨g, i, none⟩ = false := Lib.frozen_of_heap h i
theorem Row.set {w : World} {g : Nat} {T : TypeId} {xs : List Int} (h : Row w g T xs) (i : Nat) (v : Int) : Row (w.setCell ⟨g, i, none⟩ (.int .u32 v)) g T (xs.set i v) := by
  have : w.heap[g]? = _ := h
  simp [Row, World.setCell, Array.getElem?_modify, this, arr_set]
theorem Row.other {w : World} {g g' : Nat} {T : TypeId} {xs : List Int} (h : Row w g T xs) (hne : g ≠ g') (i : Nat) (v : Value) : Row (w.setCell ⟨g', i, none⟩ v) g T xs :=
  (Below.heap_setCell _ _ _ _ (fun e => hne e)).trans h
theorem Row.alloc {w : World} {g : Nat} {T : TypeId} {xs : List Int} (h : Row w g T xs) (o : Obj) : Row (w.alloc o) g T xs :=
  (Lib.alloc_old w o g (Array.getElem?_eq_some_iff.1 h).1).trans h
theorem Row.lt {w : World} {g : Nat} {T : TypeId} {xs : List Int} (h : Row w g T xs) : g < w.heap.size := (Array.getElem?_eq_some_iff.1 h).1
theorem Row.drewN {w : World} {g : Nat} {T : TypeId} {xs : List Int} (h : Row w g T xs) (n : Nat) : Row (w.drewN n) g T xs := h
theorem Row.new (w : World) (T : TypeId) (xs : List Int) : Row (w.alloc (.cells (arr .u32 xs) T)) w.heap.size T xs := heap_alloc_new w _
theorem Row.keep {w w' : World} {g : Nat} {T : TypeId} {xs : List Int} (h : Row w g T xs) (hb : Below w.heap.size w w') : Row w' g T xs :=
  (hb.block g h.lt).trans h
theorem Row.put {w : World} {g : Nat} {T : TypeId} {xs : List Int} (h : Row w g T xs) (ys : List Int) : Row (w.setRow g (arr .u32 ys)) g T ys :=
  setRow_heap w g _ _ _ _ h
theorem Row.past {w : World} {g g' : Nat} {T : TypeId} {xs : List Int} (h : Row w g T xs) (hne : g ≠ g') (c : Array Value) : Row (w.setRow g' c) g T xs :=
  (setRow_other w g' g c hne).trans h
theorem below_setRow {B : Nat} {w w1 : World} (h : Below B w w1) {g : Nat} (hg : B ≤ g) (c : Array Value) : Below B w (w1.setRow g c) :=
  h.trans ⟨rfl, rfl, rfl, by simp [World.setRow], fun k hk => setRow_other w1 g k c (by omega)⟩
theorem alloc_run {P : Program} (ev : Operand → Value) (T : TypeId) {c : Array Value} (W : World) (hz : (zeroValue T).run P W = .ok (.agg c) W) {o : Oper} (ho : o.op = .alloc T) :
    (execOp ev o).run P W = .ok (.value (.pointer (some ⟨W.heap.size, 0, none⟩))) (W.alloc (.cells c T)) := by
  unfold execOp
  rw [ho]
  go_simp
theorem load_run {P : Program} (ev : Operand → Value) (T : TypeId) (x : Operand) {xs : List Int} (g n : Nat) (e : TypeId) (W : World) (h : Row W g T xs) (hu : P.underlying T = some (.array n e)) (hi : (P.info? T).map (·.size) = some xs.length) (hx : ev x = .pointer (some ⟨g, 0, none⟩)) {o : Oper} (ho : o.op = .load T x) :
    (execOp ev o).run P W = .ok (.value (.agg (arr .u32 xs))) W := by
  unfold execOp
  simp only [ho, hx, Instr.loadAt, Instr.sureAddr, Sem.run_bind, Sem.run_pure, Result.andThen_ok, run_loadVar_row W g T T _ _ _ h hu rfl (by rw [arr_size]; exact hi)]
theorem store_run {P : Program} (ev : Operand → Value) (T : TypeId) (x y : Operand) {xs ys : List Int} (g : Nat) (W : World) (h : Row W g T xs) (hi : (P.info? T).map (·.size) = some ys.length) (hl : xs.length = ys.length) (hx : ev x = .pointer (some ⟨g, 0, none⟩)) (hy : ev y = .agg (arr .u32 ys)) {o : Oper} (ho : o.op = .store T x y) :
    (execOp ev o).run P W = .ok .skip (W.setRow g (arr .u32 ys)) := by
  unfold execOp
  simp only [ho, hx, hy, Instr.storeAt, Instr.sureAddr, Sem.run_bind, Sem.run_pure, Result.andThen_ok, run_storeVar_row W g T T (arr .u32 xs) (arr .u32 ys) h (by rw [arr_size .u32 ys]; exact hi) (by rw [arr_size .u32 xs, arr_size .u32 ys]; exact hl) (arr_one _ _)]
theorem copy_shift (w : World) (T : TypeId) (gb : Nat) (a b c d e f g h : Int) (hr : Row w gb T [a, b, c, d, e, f, g, h]) :
    (Builtin.copy_ #[92, 92] 3 #[.slice (some ⟨gb, 1, none⟩) 7 7, .slice (some ⟨gb, 0, none⟩) 7 8]).run Tryd.prog w = .ok (.int .i64 7) (w.setRow gb (arr .u32 [a, a, b, c, d, e, f, g])) := by
  have := run_copy_row (P := Tryd.prog) w 92 92 3 91 gb 1 7 7 ⟨gb, 0, none⟩ 7 8 (arr .u32 [a, b, c, d, e, f, g, h]) T [.int .u32 a, .int .u32 b, .int .u32 c, .int .u32 d, .int .u32 e, .int .u32 f, .int .u32 g]
    Tryd.underlying92 (by kernel_rfl) hr rfl (fun j v hv => by
      have hadd : (⟨gb, 0, none⟩ : Addr).add j = ⟨gb, j, none⟩ := by unfold Addr.add; split <;> simp_all
      rw [hadd, Lib.cell_of_heap hr]
      match j, hv with
      | 0, hv => exact hv
      | 1, hv => exact hv
      | 2, hv => exact hv
      | 3, hv => exact hv
      | 4, hv => exact hv
      | 5, hv => exact hv
      | 6, hv => exact hv
      | k + 7, hv => simp at hv) (by simp [arr]) (by intro v hv; simp at hv; rcases hv with rfl | rfl | rfl | rfl | rfl | rfl | rfl <;> rfl)
  exact this
theorem blk_eq (K : List Int) (x xv : V8) (b : ByteArray) (WL : List Int) (i j : Nat) (hi : i = 64) (hW : wl b i = WL) (hj : j = 64) (hx : cv x K WL j = xv) : ad x.l xv.l 8 = blk K x b := by
  subst hi hj hW hx
  rfl
set_option maxRecDepth 100000 in
set_option maxHeartbeats 8000000 in
theorem block_calls (s0 s1 s2 s3 s4 s5 s6 s7 : Int) (b : ByteArray) (hb : b.size = 64) (R : List Int) (hres : Hid (blk KL ⟨s0, s1, s2, s3, s4, s5, s6, s7⟩ b = R)) (w : World) :
    Calls Tryd.prog 73 #[.agg (arr .u32 [s0, s1, s2, s3, s4, s5, s6, s7]), .string b] w fun e w' => e = .returned (.agg (arr .u32 R)) ∧ Below w.heap.size w w' := by
  have hz := zero64
  have hz8 := zero8
  go_enter Tryd.func73, Tryd.ntmps73
  go_wp2_with fail
  go_loopw [6, 18] (fun _ n wr => ∃ i : Nat, i ≤ 64 ∧ n = .int .i64 i ∧ Aside0 (Row wr w.heap.size 115 [s0, s1, s2, s3, s4, s5, s6, s7]) ∧ Aside0 (Row wr (w.heap.size + 1) 115 (zs 8)) ∧ Aside0 (Row wr (w.heap.size + 1 + 1) 132 (wl b i)) ∧ Aside0 (Below w.heap.size w wr)) (fun _ n _ => 64 - (intOf n).toNat)
  case atStart =>
    refine ⟨0, by omega, rfl, ⟨((Row.new w _ _).alloc _).alloc _⟩, ⟨?_⟩, ⟨?_⟩, ⟨(((Below.refl _ _).alloc (Nat.le_refl _) _).alloc (by simp) _).alloc (by simp; omega) _⟩⟩
    · have := (Row.new (w.alloc (.cells (arr .u32 [s0, s1, s2, s3, s4, s5, s6, s7]) 115)) 115 (zs 8)).alloc (.cells (arr .u32 (zs 64)) 132)
      simpa using this
    · have := Row.new ((w.alloc (.cells (arr .u32 [s0, s1, s2, s3, s4, s5, s6, s7]) 115)).alloc (.cells (arr .u32 (zs 8)) 115)) 132 (zs 64)
      simp only [World.size_alloc] at this
      exact this
  case round =>
    obtain ⟨i, hi, rfl, HS, HR, HW, HBl⟩ := hrel
    by_cases hlt : i < 64
    · by_cases h16 : i < 16
      · go_wp2_with fail
        go_loopw [7, 23] (fun _ n wr => ∃ j : Nat, j ≤ 4 ∧ n = .int .i64 j ∧ Aside0 (Row wr w.heap.size 115 [s0, s1, s2, s3, s4, s5, s6, s7]) ∧ Aside0 (Row wr (w.heap.size + 1) 115 (zs 8)) ∧ Aside0 (Row wr (w.heap.size + 1 + 1) 132 ((wl b i).set i (acc b i j))) ∧ Aside0 (Below w.heap.size w wr)) (fun _ n _ => 4 - (intOf n).toNat)
        case atStart => exact ⟨0, by omega, rfl, HS, HR, ⟨by rw [acc, wl_set_zero b i hlt]; exact HW.out⟩, HBl⟩
        case round =>
          clear HS HR HW HBl
          obtain ⟨j, hj, rfl, HS, HR, HW, HBl⟩ := hrel
          by_cases hj4 : j < 4
          · have hc := HW.out.cell i (by rw [List.length_set, wl_len]; exact hlt)
            have hf := HW.out.frozen i
            have hv : ((wl b i).set i (acc b i j)).getD i 0 = acc b i j := by
              rw [List.getD_eq_getElem?_getD, List.getElem?_set, if_pos rfl, wl_len, if_pos hlt]; rfl
            rw [hv] at hc
            clear hv
            have hidx : (4 * (i : Int) + (j : Int)).toNat = 4 * i + j := by omega
            have hw1 : IntKind.i64.wrap (4 * (i : Int)) = 4 * (i : Int) := IntWalk.i64_in _ (by omega)
            have hw2 : IntKind.i64.wrap (4 * (i : Int) + (j : Int)) = 4 * (i : Int) + (j : Int) := IntWalk.i64_in _ (by omega)
            have hix := index_at b (4 * (i : Int) + (j : Int)) (4 * i + j) (by omega) (by omega)
            have hbr := byteAt_rng b (4 * i + j)
            have hbm : byteAt b (4 * i + j) % 4294967296 = byteAt b (4 * i + j) := Int.emod_eq_of_lt (by omega) (by omega)
            go_wp2_with fail
            refine region_quiet_tail 14 (by kernel_rfl) (by kernel_rfl) ?_
            simp only [List.take_succ_cons, List.take_zero, List.drop_succ_cons, List.drop_zero]
            repeat (go_big_quiet_step (fail))
            refine wpQuiet_nil ?_
            intro _ hw'
            obtain ⟨nq, rfl⟩ := hw'
            have HS := Aside0.mk (HS.out.drewN nq)
            have HR := Aside0.mk (HR.out.drewN nq)
            have HBl := Aside0.mk (pw_below_drewN HBl.out nq)
            have hW := HW.out.drewN nq
            have hf : (wr.drewN nq).frozen? ⟨w.heap.size + 1 + 1, i, none⟩ = false := hW.frozen i
            have hc : (wr.drewN nq).cell? ⟨w.heap.size + 1 + 1, i, none⟩ = some (.int .u32 (acc b i j)) := hc
            have HW := Aside0.mk hW
            clear hW
            generalize wr.drewN nq = wr at *
            go_wp2
            go_roundw
            case rel =>
              refine ⟨j + 1, by omega, by go_num, ⟨HS.out.other (by omega) _ _⟩, ⟨HR.out.other (by omega) _ _⟩, ⟨?_⟩, ⟨HBl.out.setCell (by simp; omega) _⟩⟩
              have := HW.out.set i (acc b i (j + 1))
              rw [List.set_set] at this
              exact this
            case measure => simp [intOf]; omega
          · obtain rfl : j = 4 := by omega
            go_wp2
            go_roundw
            case rel =>
              refine ⟨i + 1, by omega, by go_num, HS, HR, ⟨?_⟩, HBl⟩
              have := HW.out
              rw [wl, wAt, if_pos h16]
              exact this
            case measure => simp [intOf]; omega
      · obtain ⟨m16, h16'⟩ : ∃ m : Nat, m + 16 = i := ⟨i - 16, by omega⟩
        obtain ⟨m15, h15⟩ : ∃ m : Nat, m + 15 = i := ⟨i - 15, by omega⟩
        obtain ⟨m7, h7⟩ : ∃ m : Nat, m + 7 = i := ⟨i - 7, by omega⟩
        obtain ⟨m2, h2⟩ : ∃ m : Nat, m + 2 = i := ⟨i - 2, by omega⟩
        have w16 : IntKind.i64.wrap ((i : Int) - 16) = (m16 : Int) := by rw [IntWalk.i64_in _ (by omega)]; omega
        have w15 : IntKind.i64.wrap ((i : Int) - 15) = (m15 : Int) := by rw [IntWalk.i64_in _ (by omega)]; omega
        have w7 : IntKind.i64.wrap ((i : Int) - 7) = (m7 : Int) := by rw [IntWalk.i64_in _ (by omega)]; omega
        have w2 : IntKind.i64.wrap ((i : Int) - 2) = (m2 : Int) := by rw [IntWalk.i64_in _ (by omega)]; omega
        have hL := wl_len b i
        have c16 := HW.out.cell m16 (by omega)
        have c15 := HW.out.cell m15 (by omega)
        have c7 := HW.out.cell m7 (by omega)
        have c2 := HW.out.cell m2 (by omega)
        have hci := HW.out.cell i (by omega)
        have HE : Hid (wAt b (wl b i) i = ((wl b i).getD m16 0 + (wl b i).getD m7 0 + sg0 ((wl b i).getD m15 0) + sg1 ((wl b i).getD m2 0)) % 4294967296) := Lib.hid (by
          unfold wAt
          rw [if_neg h16, show i - 16 = m16 by omega, show i - 7 = m7 by omega, show i - 15 = m15 by omega, show i - 2 = m2 by omega])
        have g16 : (m16 : Int) < 64 := by omega
        have g15 : (m15 : Int) < 64 := by omega
        have g7 : (m7 : Int) < 64 := by omega
        have g2 : (m2 : Int) < 64 := by omega
        have gi : (i : Int) < 64 := by omega
        clear h16' h15 h7 h2 hL
        generalize (wl b i).getD m16 0 = x16 at c16 HE
        generalize (wl b i).getD m15 0 = x15 at c15 HE
        generalize (wl b i).getD m7 0 = x7 at c7 HE
        generalize (wl b i).getD m2 0 = x2 at c2 HE
        generalize (wl b i).getD i 0 = xi at hci
        go_wp2_with fail
        go_quiet (fail)
        have HS := Aside0.mk (HS.out.drewN nq)
        have HR := Aside0.mk (HR.out.drewN nq)
        have HBl := Aside0.mk (pw_below_drewN HBl.out nq)
        have HW := Aside0.mk (HW.out.drewN nq)
        have c16 : (wr.drewN nq).cell? _ = _ := c16
        have c7 : (wr.drewN nq).cell? _ = _ := c7
        have hci : (wr.drewN nq).cell? _ = _ := hci
        clear c15 c2
        generalize wr.drewN nq = wr at *
        go_wp2_with fail
        refine region_quiet_tail 29 (by kernel_rfl) (by kernel_rfl) ?_
        simp only [List.take_succ_cons, List.take_zero, List.drop_succ_cons, List.drop_zero]
        repeat (go_big_quiet_step (exact right_q _ _ (by decide) (by decide) _ _))
        refine wpQuiet_nil ?_
        intro _ hw'
        obtain ⟨nq, rfl⟩ := hw'
        have HS := Aside0.mk (HS.out.drewN nq)
        have HR := Aside0.mk (HR.out.drewN nq)
        have HBl := Aside0.mk (pw_below_drewN HBl.out nq)
        have hW := HW.out.drewN nq
        have hf : (wr.drewN nq).frozen? ⟨w.heap.size + 1 + 1, i, none⟩ = false := hW.frozen i
        have hci : (wr.drewN nq).cell? _ = _ := hci
        have HW := Aside0.mk hW
        clear hW c16 c7
        generalize wr.drewN nq = wr at *
        go_wp2
        go_roundw
        case rel =>
          refine ⟨i + 1, by omega, by go_num, ⟨HS.out.other (by omega) _ _⟩, ⟨HR.out.other (by omega) _ _⟩, ⟨?_⟩, ⟨HBl.out.setCell (by simp; omega) _⟩⟩
          have := HW.out.set i (wAt b (wl b i) i)
          rw [HE.out] at this
          rw [wl, HE.out]
          exact this
        case measure => simp [intOf]; omega
    · have hge : 64 ≤ i := by omega
      have hi64 : Hid (i = 64) := Lib.hid (by omega)
      clear hi hlt
      have hWL := wl_len b i
      generalize hwle : wl b i = WL at HW hWL
      have hWLe : Hid (wl b i = WL) := Lib.hid hwle
      clear hwle
      go_wp2_with fail
      refine start_ (n := 6) (S := fun w' => Row w' w.heap.size 115 [s0, s1, s2, s3, s4, s5, s6, s7]) (ds := []) #[false, false, false, false, false, false] (by kernel_rfl) rfl rfl HS.out (fun hHeld => ?_)
      have HS := Aside0.mk (HS.out.drewN 1)
      have HR := Aside0.mk (HR.out.drewN 1)
      have HW := Aside0.mk (HW.out.drewN 1)
      have HBl := Aside0.mk (pw_below_drewN HBl.out 1)
      change wpAnyLast _ _ _ _ _ _ _ _ _ (wr.drewN 1)
      change Row (wr.drewN 1) _ _ _ at hHeld
      generalize wr.drewN 1 = wr at *
      refine take_ (i := 0) (N := some 79) (v := .agg (arr .u32 [s0, s1, s2, s3, s4, s5, s6, s7])) (a' := ?_) #[true, false, false, false, false, false] rfl rfl (by kernel_rfl) (fun _ _ _ h => h) (Or.inl ⟨by rfl, fun w' hw' => load_run _ 115 (.tmp 2) w.heap.size _ _ w' hw' Tryd.underlying115 size8 rfl rfl⟩) hHeld ?_ ?_
      rotate_left
      · simp only [Act.put, List.setIfInBounds_toArray, List.set_cons_zero, List.set_cons_succ]
        rfl
      clear hHeld
      refine join_ 2 #[true, true, true, true, false, false] (fun s : Nat × Nat => [(80, .agg (arr .u32 KL)), (10, .pointer (some ⟨s.1, 0, none⟩)), (11, .pointer (some ⟨s.2, 0, none⟩))]) (fun s w' => Row w' w.heap.size 115 [s0, s1, s2, s3, s4, s5, s6, s7] ∧ Row w' (w.heap.size + 1) 115 (zs 8) ∧ Row w' (w.heap.size + 1 + 1) 132 WL ∧ Row w' s.1 115 (zs 8) ∧ Row w' s.2 132 (zs 64) ∧ s.1 ≠ s.2 ∧ w.heap.size + 1 + 1 < s.1 ∧ w.heap.size + 1 + 1 < s.2 ∧ Below w.heap.size w w') ?_ (fun hcont => ?_)
      · rintro ⟨g10, g11⟩ wr ⟨hs, hr, hw, h10, h11, hne, hl10, hl11, hbl⟩
        refine norm_ (a' := ?_) ?_ ?_
        rotate_left
        · simp only [putAll, Act.put, List.setIfInBounds_toArray, List.set_cons_zero, List.set_cons_succ]
          rfl
        refine one_ (i := 4) (N := none) #[true, true, true, true, true, false] rfl rfl (by kernel_rfl) (by decide) (fun K hK => ?_)
        refine skip_ (by rfl) rfl (store_run _ 115 (.tmp 10) (.tmp 79) g10 _ h10 (ys := [s0, s1, s2, s3, s4, s5, s6, s7]) size8 rfl rfl rfl rfl) ?_
        refine hK.out _ _ (hs.past (by omega) _) (fun _ => ?_)
        clear hK K
        refine one_ (i := 5) (N := none) #[true, true, true, true, true, true] rfl rfl (by kernel_rfl) (by decide) (fun K hK => ?_)
        refine skip_ (by rfl) rfl (store_run _ 132 (.tmp 11) (.tmp 80) g11 _ (h11.past (by omega) _) (ys := KL) (by rw [KL_len]; exact size64) (by rw [KL_len, zs_len]) rfl rfl rfl) ?_
        refine hK.out _ _ ((hs.past (by omega) _).past (by omega) _) (fun _ => ?_)
        clear hK K
        refine done_ (by kernel_rfl) ?_
        have HS := Aside0.mk ((hs.past (show w.heap.size ≠ g10 by omega) (arr .u32 [s0, s1, s2, s3, s4, s5, s6, s7])).past (show w.heap.size ≠ g11 by omega) (arr .u32 KL))
        have HR := Aside0.mk ((hr.past (show w.heap.size + 1 ≠ g10 by omega) (arr .u32 [s0, s1, s2, s3, s4, s5, s6, s7])).past (show w.heap.size + 1 ≠ g11 by omega) (arr .u32 KL))
        have HW := Aside0.mk ((hw.past (show w.heap.size + 1 + 1 ≠ g10 by omega) (arr .u32 [s0, s1, s2, s3, s4, s5, s6, s7])).past (show w.heap.size + 1 + 1 ≠ g11 by omega) (arr .u32 KL))
        have HV := Aside0.mk ((h10.put [s0, s1, s2, s3, s4, s5, s6, s7]).past hne (arr .u32 KL))
        have HK := Aside0.mk ((h11.past (Ne.symm hne) (arr .u32 [s0, s1, s2, s3, s4, s5, s6, s7])).put KL)
        have HBl := Aside0.mk (below_setRow (below_setRow hbl (show w.heap.size ≤ g10 by omega) (arr .u32 [s0, s1, s2, s3, s4, s5, s6, s7])) (show w.heap.size ≤ g11 by omega) (arr .u32 KL))
        clear hs hr hw h10 h11 hbl
        generalize (wr.setRow g10 (arr .u32 [s0, s1, s2, s3, s4, s5, s6, s7])).setRow g11 (arr .u32 KL) = wr at *
        go_wp2_with fail
        go_loopw [12, 81] (fun _ n wr => ∃ i : Nat, i ≤ 64 ∧ n = .int .i64 i ∧ Aside0 (Row wr w.heap.size 115 [s0, s1, s2, s3, s4, s5, s6, s7]) ∧ Aside0 (Row wr (w.heap.size + 1) 115 (zs 8)) ∧ Aside0 (Row wr (w.heap.size + 1 + 1) 132 WL) ∧ Aside0 (Row wr g10 115 (cv ⟨s0, s1, s2, s3, s4, s5, s6, s7⟩ KL WL i).l) ∧ Aside0 (Row wr g11 132 KL) ∧ Aside0 (Below w.heap.size w wr)) (fun _ n _ => 64 - (intOf n).toNat)
        case atStart => exact ⟨0, by omega, rfl, HS, HR, HW, HV, HK, HBl⟩
        case round =>
          clear HS HR HW HV HK HBl
          obtain ⟨i, hi, rfl, HS, HR, HW, HV, HK, HBl⟩ := hrel
          by_cases hlt : i < 64
          · have hR : Hid (stp (cv ⟨s0, s1, s2, s3, s4, s5, s6, s7⟩ KL WL i) (KL.getD i 0) (WL.getD i 0) = cv ⟨s0, s1, s2, s3, s4, s5, s6, s7⟩ KL WL (i + 1)) := Lib.hid rfl
            have ck := HK.out.cell i (by rw [KL_len]; exact hlt)
            have cw := HW.out.cell i (by rw [hWL]; exact hlt)
            generalize KL.getD i 0 = kk at ck hR
            generalize WL.getD i 0 = ww at cw hR
            generalize cv ⟨s0, s1, s2, s3, s4, s5, s6, s7⟩ KL WL i = x at HV hR
            obtain ⟨a, b', c, d, e, f, g, h⟩ := x
            have c0 : wr.cell? ⟨g10, 0, none⟩ = some (.int .u32 a) := HV.out.cell 0 (by simp [V8.l])
            have c1 : wr.cell? ⟨g10, 1, none⟩ = some (.int .u32 b') := HV.out.cell 1 (by simp [V8.l])
            have c2 : wr.cell? ⟨g10, 2, none⟩ = some (.int .u32 c) := HV.out.cell 2 (by simp [V8.l])
            have c3 : wr.cell? ⟨g10, 3, none⟩ = some (.int .u32 d) := HV.out.cell 3 (by simp [V8.l])
            have c4 : wr.cell? ⟨g10, 4, none⟩ = some (.int .u32 e) := HV.out.cell 4 (by simp [V8.l])
            have c5 : wr.cell? ⟨g10, 5, none⟩ = some (.int .u32 f) := HV.out.cell 5 (by simp [V8.l])
            have c6 : wr.cell? ⟨g10, 6, none⟩ = some (.int .u32 g) := HV.out.cell 6 (by simp [V8.l])
            have c7 : wr.cell? ⟨g10, 7, none⟩ = some (.int .u32 h) := HV.out.cell 7 (by simp [V8.l])
            go_wp2_with fail
            go_quiet (fail)
            have HS := Aside0.mk (HS.out.drewN nq)
            have HR := Aside0.mk (HR.out.drewN nq)
            have HW := Aside0.mk (HW.out.drewN nq)
            have HV := Aside0.mk (HV.out.drewN nq)
            have HK := Aside0.mk (HK.out.drewN nq)
            have HBl := Aside0.mk (pw_below_drewN HBl.out nq)
            have c0 : (wr.drewN nq).cell? _ = _ := c0
            have c1 : (wr.drewN nq).cell? _ = _ := c1
            have c2 : (wr.drewN nq).cell? _ = _ := c2
            have c3 : (wr.drewN nq).cell? _ = _ := c3
            have c4 : (wr.drewN nq).cell? _ = _ := c4
            have c5 : (wr.drewN nq).cell? _ = _ := c5
            have c6 : (wr.drewN nq).cell? _ = _ := c6
            have c7 : (wr.drewN nq).cell? _ = _ := c7
            have ck : (wr.drewN nq).cell? _ = _ := ck
            have cw : (wr.drewN nq).cell? _ = _ := cw
            generalize wr.drewN nq = wr at *
            go_wp2_with fail
            go_quiet (exact right_q _ _ (by decide) (by decide) _ _)
            have HS := Aside0.mk (HS.out.drewN nq)
            have HR := Aside0.mk (HR.out.drewN nq)
            have HW := Aside0.mk (HW.out.drewN nq)
            have HV := Aside0.mk (HV.out.drewN nq)
            have HK := Aside0.mk (HK.out.drewN nq)
            have HBl := Aside0.mk (pw_below_drewN HBl.out nq)
            have c0 : (wr.drewN nq).cell? _ = _ := c0
            have c1 : (wr.drewN nq).cell? _ = _ := c1
            have c2 : (wr.drewN nq).cell? _ = _ := c2
            have c3 : (wr.drewN nq).cell? _ = _ := c3
            have c4 : (wr.drewN nq).cell? _ = _ := c4
            have c5 : (wr.drewN nq).cell? _ = _ := c5
            have c6 : (wr.drewN nq).cell? _ = _ := c6
            have c7 : (wr.drewN nq).cell? _ = _ := c7
            generalize wr.drewN nq = wr at *
            rw [show ((h + Go.bits .xor .u32 (Go.bits .xor .u32 (rr e 6) (rr e 11)) (rr e 25) + Go.bits .xor .u32 g (Go.bits .and .u32 e (Go.bits .xor .u32 f g)) + kk) % 4294967296 + ww) % 4294967296 = tt e f g h kk ww from rfl]
            have HT : Hid (stp ⟨a, b', c, d, e, f, g, h⟩ kk ww = ⟨(tt e f g h kk ww + uu a b' c) % 4294967296, a, b', c, (d + tt e f g h kk ww) % 4294967296, e, f, g⟩) := Lib.hid rfl
            generalize tt e f g h kk ww = t at *
            go_wp2_with fail
            go_quiet (exact right_q _ _ (by decide) (by decide) _ _)
            have HS := Aside0.mk (HS.out.drewN nq)
            have HR := Aside0.mk (HR.out.drewN nq)
            have HW := Aside0.mk (HW.out.drewN nq)
            have HV := Aside0.mk (HV.out.drewN nq)
            have HK := Aside0.mk (HK.out.drewN nq)
            have HBl := Aside0.mk (pw_below_drewN HBl.out nq)
            have c0 : (wr.drewN nq).cell? _ = _ := c0
            have c1 : (wr.drewN nq).cell? _ = _ := c1
            have c2 : (wr.drewN nq).cell? _ = _ := c2
            have c3 : (wr.drewN nq).cell? _ = _ := c3
            have c4 : (wr.drewN nq).cell? _ = _ := c4
            have c5 : (wr.drewN nq).cell? _ = _ := c5
            have c6 : (wr.drewN nq).cell? _ = _ := c6
            have c7 : (wr.drewN nq).cell? _ = _ := c7
            generalize wr.drewN nq = wr at *
            rw [show (Go.bits .xor .u32 (Go.bits .xor .u32 (rr a 2) (rr a 13)) (rr a 22) + Go.bits .or .u32 (Go.bits .and .u32 a b') (Go.bits .and .u32 c (Go.bits .or .u32 a b'))) % 4294967296 = uu a b' c from rfl]
            generalize uu a b' c = u at *
            have f0 := HV.out.frozen 0
            have f1 := HV.out.frozen 1
            have f2 := HV.out.frozen 2
            have f3 := HV.out.frozen 3
            have f4 := HV.out.frozen 4
            have f5 := HV.out.frozen 5
            have f6 := HV.out.frozen 6
            have f7 := HV.out.frozen 7
            go_wp2_with fail
            refine region_quiet_tail 2 (by kernel_rfl) (by kernel_rfl) ?_
            simp only [List.take_succ_cons, List.take_zero, List.drop_succ_cons, List.drop_zero]
            repeat (go_big_quiet_step (fail))
            refine wpQuiet_nil ?_
            intro _ hw'
            obtain ⟨nq, rfl⟩ := hw'
            have f0 : (wr.drewN nq).frozen? _ = false := f0
            have f1 : (wr.drewN nq).frozen? _ = false := f1
            have f2 : (wr.drewN nq).frozen? _ = false := f2
            have f3 : (wr.drewN nq).frozen? _ = false := f3
            have f4 : (wr.drewN nq).frozen? _ = false := f4
            have f5 : (wr.drewN nq).frozen? _ = false := f5
            have f6 : (wr.drewN nq).frozen? _ = false := f6
            have f7 : (wr.drewN nq).frozen? _ = false := f7
            have HS := Aside0.mk (HS.out.drewN nq)
            have HR := Aside0.mk (HR.out.drewN nq)
            have HW := Aside0.mk (HW.out.drewN nq)
            have HV := Aside0.mk (HV.out.drewN nq)
            have HK := Aside0.mk (HK.out.drewN nq)
            have HBl := Aside0.mk (pw_below_drewN HBl.out nq)
            have c0 : (wr.drewN nq).cell? _ = _ := c0
            have c1 : (wr.drewN nq).cell? _ = _ := c1
            have c2 : (wr.drewN nq).cell? _ = _ := c2
            have c3 : (wr.drewN nq).cell? _ = _ := c3
            have c4 : (wr.drewN nq).cell? _ = _ := c4
            have c5 : (wr.drewN nq).cell? _ = _ := c5
            have c6 : (wr.drewN nq).cell? _ = _ := c6
            have c7 : (wr.drewN nq).cell? _ = _ := c7
            generalize wr.drewN nq = wr at *
            have hcp := copy_shift wr _ g10 a b' c d e f g h HV.out
            have HS := Aside0.mk (HS.out.past (show w.heap.size ≠ g10 by omega) (arr .u32 [a, a, b', c, d, e, f, g]))
            have HR := Aside0.mk (HR.out.past (show w.heap.size + 1 ≠ g10 by omega) (arr .u32 [a, a, b', c, d, e, f, g]))
            have HW := Aside0.mk (HW.out.past (show w.heap.size + 1 + 1 ≠ g10 by omega) (arr .u32 [a, a, b', c, d, e, f, g]))
            have HK := Aside0.mk (HK.out.past (Ne.symm hne) (arr .u32 [a, a, b', c, d, e, f, g]))
            have HBl := Aside0.mk (below_setRow HBl.out (show w.heap.size ≤ g10 by omega) (arr .u32 [a, a, b', c, d, e, f, g]))
            have HV := Aside0.mk (HV.out.put [a, a, b', c, d, e, f, g])
            clear c0 c1 c2 c3 c4 c5 c6 c7 f0 f1 f2 f3 f4 f5 f6 f7
            generalize hw2 : wr.setRow g10 (arr .u32 [a, a, b', c, d, e, f, g]) = w2 at *
            clear hw2
            have c0 : w2.cell? ⟨g10, 0, none⟩ = some (.int .u32 a) := HV.out.cell 0 (by simp)
            have c4 : w2.cell? ⟨g10, 4, none⟩ = some (.int .u32 d) := HV.out.cell 4 (by simp)
            have f0 := HV.out.frozen 0
            have f4 := HV.out.frozen 4
            go_wp2
            go_roundw
            case rel =>
              refine ⟨i + 1, by omega, by go_num, ⟨(HS.out.other (by omega) _ _).other (by omega) _ _⟩, ⟨(HR.out.other (by omega) _ _).other (by omega) _ _⟩, ⟨(HW.out.other (by omega) _ _).other (by omega) _ _⟩, ⟨?_⟩, ⟨(HK.out.other (Ne.symm hne) _ _).other (Ne.symm hne) _ _⟩, ⟨(HBl.out.setCell (by simp; omega) _).setCell (by simp; omega) _⟩⟩
              rw [← hR.out]
              rw [HT.out]
              exact (HV.out.set 0 _).set 4 _
            case measure => simp [intOf]; omega
          · have hge2 : 64 ≤ i := by omega
            have hi642 : Hid (i = 64) := Lib.hid (by omega)
            generalize hxv0 : cv ⟨s0, s1, s2, s3, s4, s5, s6, s7⟩ KL WL i = xv at HV
            have hxv := Lib.hid hxv0
            clear hxv0
            have hvl : xv.l.length = 8 := rfl
            clear HK HW
            go_wp2_with fail
            go_loopw [17, 152] (fun _ n wr => ∃ i : Nat, i ≤ 8 ∧ n = .int .i64 i ∧ Aside0 (Row wr w.heap.size 115 (ad [s0, s1, s2, s3, s4, s5, s6, s7] xv.l i)) ∧ Aside0 (Row wr (w.heap.size + 1) 115 (zs 8)) ∧ Aside0 (Row wr g10 115 xv.l) ∧ Aside0 (Below w.heap.size w wr)) (fun _ n _ => 8 - (intOf n).toNat)
            case atStart => exact ⟨0, by omega, rfl, HS, HR, HV, HBl⟩
            case round =>
              clear HS HR HV HBl
              obtain ⟨i, hi, rfl, HS, HR, HV, HBl⟩ := hrel
              have hsl : (ad [s0, s1, s2, s3, s4, s5, s6, s7] xv.l i).length = 8 := ad_len _ _ _
              by_cases hlt : i < 8
              · have hA : Hid ((ad [s0, s1, s2, s3, s4, s5, s6, s7] xv.l i).set i (((ad [s0, s1, s2, s3, s4, s5, s6, s7] xv.l i).getD i 0 + xv.l.getD i 0) % 4294967296) = ad [s0, s1, s2, s3, s4, s5, s6, s7] xv.l (i + 1)) := Lib.hid rfl
                have c1 := HS.out.cell i (by omega)
                have c2 := HV.out.cell i (by omega)
                have f1 := HS.out.frozen i
                generalize ad [s0, s1, s2, s3, s4, s5, s6, s7] xv.l i = az at *
                generalize az.getD i 0 = p1 at c1 hA
                generalize xv.l.getD i 0 = p2 at c2 hA
                go_wp2_with fail
                refine region_quiet_tail 8 (by kernel_rfl) (by kernel_rfl) ?_
                simp only [List.take_succ_cons, List.take_zero, List.drop_succ_cons, List.drop_zero]
                repeat (go_big_quiet_step (fail))
                refine wpQuiet_nil ?_
                intro _ hw'
                obtain ⟨nq, rfl⟩ := hw'
                have HS := Aside0.mk (HS.out.drewN nq)
                have HR := Aside0.mk (HR.out.drewN nq)
                have HV := Aside0.mk (HV.out.drewN nq)
                have HBl := Aside0.mk (pw_below_drewN HBl.out nq)
                have c1 : (wr.drewN nq).cell? _ = _ := c1
                have f1 : (wr.drewN nq).frozen? _ = false := f1
                clear c2
                generalize wr.drewN nq = wr at *
                go_wp2
                go_roundw
                case rel =>
                  refine ⟨i + 1, by omega, by go_num, ⟨?_⟩, ⟨HR.out.other (by omega) _ _⟩, ⟨HV.out.other (by omega) _ _⟩, ⟨HBl.out.setCell (by simp) _⟩⟩
                  rw [← hA.out]
                  exact HS.out.set i _
                case measure => simp [intOf]; omega
              · obtain rfl : i = 8 := by omega
                have hE : Hid (ad [s0, s1, s2, s3, s4, s5, s6, s7] xv.l 8 = blk KL ⟨s0, s1, s2, s3, s4, s5, s6, s7⟩ b) := Lib.hid (blk_eq _ _ _ _ _ _ _ hi64.out hWLe.out hi642.out hxv.out)
                generalize ad [s0, s1, s2, s3, s4, s5, s6, s7] xv.l 8 = az at *
                go_wp2_with (first | (refine gate_ (.load 115 (.tmp 2)) rfl ?_; refine wpList_load_row rfl 115 (.tmp 2) rfl w.heap.size rfl _ (arr .u32 az) (0, 0) _ HS.out Tryd.underlying115 rfl (by rw [arr_size, hsl]; exact size8) ?_; simp only [Act.put, List.setIfInBounds_toArray, List.set_cons_zero, List.set_cons_succ]) | (refine gate_ (.store 115 (.tmp 4) (.tmp 164)) rfl ?_; refine wpList_plain rfl (fun K hK => ?_); refine wp_store_row 115 (.tmp 4) (.tmp 164) rfl (w.heap.size + 1) (arr .u32 az) rfl rfl 115 (arr .u32 (zs 8)) HR.out (by rw [arr_size, hsl]; exact size8) (by rw [arr_size, arr_size, hsl, zs_len]) (arr_one _ _) (hK _ _ ?_); clear hK K))
                refine bodyPost_ret (results_cell_row rfl _ _ (w.heap.size + 1) 115 (arr .u32 az) (0, 0) _ rfl (HR.out.put az) Tryd.underlying115 rfl (by rw [arr_size, hsl]; exact size8)) rfl ⟨by rw [hE.out, hres.out], below_setRow HBl.out (by omega) _⟩
      · refine three_ (i := 1) (Ni := some 80) (j := 2) (Nj := some 10) (k := 3) (Nk := some 11) #[true, true, false, false, false, false] #[true, false, true, false, false, false] #[true, false, false, true, false, false] rfl rfl rfl rfl rfl rfl (by kernel_rfl) (by decide) (by decide) (by decide) (fun K hK => ?_) (fun K hK => ?_) (fun K hK => ?_)
        · refine goes_ Tryd.func87 (by kernel_rfl) rfl #[] (by rfl) rfl rfl (by simp) ?_
          refine (constants_calls _).mono ?_
          rintro e wn ⟨rfl, hb⟩
          refine ⟨_, rfl, ?_⟩
          have HS := Aside0.mk (HS.out.keep hb)
          have HR := Aside0.mk (HR.out.keep hb)
          have HW := Aside0.mk (HW.out.keep hb)
          have HBl := Aside0.mk (below2 HBl.out HBl.out.size hb)
          clear hb
          refine hK.out _ _ HS.out (fun _ => ?_)
          clear hK K
          refine two_ (i := 2) (Ni := some 10) (j := 3) (Nj := some 11) #[true, true, true, false, false, false] #[true, true, false, true, false, false] rfl rfl rfl rfl (by kernel_rfl) (by decide) (by decide) (fun K hK => ?_) (fun K hK => ?_)
          · refine value_ (by rfl) rfl (alloc_run _ 115 _ (hz8 _) rfl) ?_
            have G10 := Aside0.mk (Row.new wn 115 (zs 8))
            have q10 : w.heap.size + 1 + 1 < wn.heap.size := HW.out.lt
            generalize hg10 : wn.heap.size = g10 at G10 q10 ⊢
            have HS := Aside0.mk (HS.out.alloc (.cells (arr .u32 (zs 8)) 115))
            have HR := Aside0.mk (HR.out.alloc (.cells (arr .u32 (zs 8)) 115))
            have HW := Aside0.mk (HW.out.alloc (.cells (arr .u32 (zs 8)) 115))
            have HBl := Aside0.mk (below_alloc HBl.out (.cells (arr .u32 (zs 8)) 115))
            generalize wn.alloc (.cells (arr .u32 (zs 8)) 115) = wn at *
            refine hK.out _ _ HS.out (fun _ => ?_)
            clear hK K
            refine one_ (i := 3) (N := some 11) #[true, true, true, true, false, false] rfl rfl (by kernel_rfl) (by decide) (fun K hK => ?_)
            refine value_ (by rfl) rfl (alloc_run _ 132 _ (hz _) rfl) ?_
            have G11 := Aside0.mk (Row.new wn 132 (zs 64))
            have q11 : w.heap.size + 1 + 1 < wn.heap.size := HW.out.lt
            have q1011 : g10 < wn.heap.size := G10.out.lt
            generalize hg11 : wn.heap.size = g11 at G11 q11 q1011 ⊢
            have HS := Aside0.mk (HS.out.alloc (.cells (arr .u32 (zs 64)) 132))
            have HR := Aside0.mk (HR.out.alloc (.cells (arr .u32 (zs 64)) 132))
            have HW := Aside0.mk (HW.out.alloc (.cells (arr .u32 (zs 64)) 132))
            have G10 := Aside0.mk (G10.out.alloc (.cells (arr .u32 (zs 64)) 132))
            have HBl := Aside0.mk (below_alloc HBl.out (.cells (arr .u32 (zs 64)) 132))
            generalize wn.alloc (.cells (arr .u32 (zs 64)) 132) = wn at *
            refine hK.out _ _ HS.out (fun _ => ?_)
            clear hK K
            exact norm_ rfl (hcont (g10, g11) _ ⟨HS.out, HR.out, HW.out, G10.out, G11.out, by omega, by omega, by omega, HBl.out⟩)
          · refine value_ (by rfl) rfl (alloc_run _ 132 _ (hz _) rfl) ?_
            have G11 := Aside0.mk (Row.new wn 132 (zs 64))
            have q11 : w.heap.size + 1 + 1 < wn.heap.size := HW.out.lt
            generalize hg11 : wn.heap.size = g11 at G11 q11 ⊢
            have HS := Aside0.mk (HS.out.alloc (.cells (arr .u32 (zs 64)) 132))
            have HR := Aside0.mk (HR.out.alloc (.cells (arr .u32 (zs 64)) 132))
            have HW := Aside0.mk (HW.out.alloc (.cells (arr .u32 (zs 64)) 132))
            have HBl := Aside0.mk (below_alloc HBl.out (.cells (arr .u32 (zs 64)) 132))
            generalize wn.alloc (.cells (arr .u32 (zs 64)) 132) = wn at *
            refine hK.out _ _ HS.out (fun _ => ?_)
            clear hK K
            refine one_ (i := 2) (N := some 10) #[true, true, true, true, false, false] rfl rfl (by kernel_rfl) (by decide) (fun K hK => ?_)
            refine value_ (by rfl) rfl (alloc_run _ 115 _ (hz8 _) rfl) ?_
            have G10 := Aside0.mk (Row.new wn 115 (zs 8))
            have q10 : w.heap.size + 1 + 1 < wn.heap.size := HW.out.lt
            have q1011 : g11 < wn.heap.size := G11.out.lt
            generalize hg10 : wn.heap.size = g10 at G10 q10 q1011 ⊢
            have HS := Aside0.mk (HS.out.alloc (.cells (arr .u32 (zs 8)) 115))
            have HR := Aside0.mk (HR.out.alloc (.cells (arr .u32 (zs 8)) 115))
            have HW := Aside0.mk (HW.out.alloc (.cells (arr .u32 (zs 8)) 115))
            have G11 := Aside0.mk (G11.out.alloc (.cells (arr .u32 (zs 8)) 115))
            have HBl := Aside0.mk (below_alloc HBl.out (.cells (arr .u32 (zs 8)) 115))
            generalize wn.alloc (.cells (arr .u32 (zs 8)) 115) = wn at *
            refine hK.out _ _ HS.out (fun _ => ?_)
            clear hK K
            exact norm_ rfl (hcont (g10, g11) _ ⟨HS.out, HR.out, HW.out, G10.out, G11.out, by omega, by omega, by omega, HBl.out⟩)
        · refine value_ (by rfl) rfl (alloc_run _ 115 _ (hz8 _) rfl) ?_
          have G10 := Aside0.mk (Row.new wr 115 (zs 8))
          have q10 : w.heap.size + 1 + 1 < wr.heap.size := HW.out.lt
          generalize hg10 : wr.heap.size = g10 at G10 q10 ⊢
          have HS := Aside0.mk (HS.out.alloc (.cells (arr .u32 (zs 8)) 115))
          have HR := Aside0.mk (HR.out.alloc (.cells (arr .u32 (zs 8)) 115))
          have HW := Aside0.mk (HW.out.alloc (.cells (arr .u32 (zs 8)) 115))
          have HBl := Aside0.mk (below_alloc HBl.out (.cells (arr .u32 (zs 8)) 115))
          generalize wr.alloc (.cells (arr .u32 (zs 8)) 115) = wn at *
          refine hK.out _ _ HS.out (fun _ => ?_)
          clear hK K
          refine two_ (i := 1) (Ni := some 80) (j := 3) (Nj := some 11) #[true, true, true, false, false, false] #[true, false, true, true, false, false] rfl rfl rfl rfl (by kernel_rfl) (by decide) (by decide) (fun K hK => ?_) (fun K hK => ?_)
          · refine goes_ Tryd.func87 (by kernel_rfl) rfl #[] (by rfl) rfl rfl (by simp) ?_
            refine (constants_calls _).mono ?_
            rintro e wn ⟨rfl, hb⟩
            refine ⟨_, rfl, ?_⟩
            have HS := Aside0.mk (HS.out.keep hb)
            have HR := Aside0.mk (HR.out.keep hb)
            have HW := Aside0.mk (HW.out.keep hb)
            have G10 := Aside0.mk (G10.out.keep hb)
            have HBl := Aside0.mk (below2 HBl.out HBl.out.size hb)
            clear hb
            refine hK.out _ _ HS.out (fun _ => ?_)
            clear hK K
            refine one_ (i := 3) (N := some 11) #[true, true, true, true, false, false] rfl rfl (by kernel_rfl) (by decide) (fun K hK => ?_)
            refine value_ (by rfl) rfl (alloc_run _ 132 _ (hz _) rfl) ?_
            have G11 := Aside0.mk (Row.new wn 132 (zs 64))
            have q11 : w.heap.size + 1 + 1 < wn.heap.size := HW.out.lt
            have q1011 : g10 < wn.heap.size := G10.out.lt
            generalize hg11 : wn.heap.size = g11 at G11 q11 q1011 ⊢
            have HS := Aside0.mk (HS.out.alloc (.cells (arr .u32 (zs 64)) 132))
            have HR := Aside0.mk (HR.out.alloc (.cells (arr .u32 (zs 64)) 132))
            have HW := Aside0.mk (HW.out.alloc (.cells (arr .u32 (zs 64)) 132))
            have G10 := Aside0.mk (G10.out.alloc (.cells (arr .u32 (zs 64)) 132))
            have HBl := Aside0.mk (below_alloc HBl.out (.cells (arr .u32 (zs 64)) 132))
            generalize wn.alloc (.cells (arr .u32 (zs 64)) 132) = wn at *
            refine hK.out _ _ HS.out (fun _ => ?_)
            clear hK K
            exact norm_ rfl (hcont (g10, g11) _ ⟨HS.out, HR.out, HW.out, G10.out, G11.out, by omega, by omega, by omega, HBl.out⟩)
          · refine value_ (by rfl) rfl (alloc_run _ 132 _ (hz _) rfl) ?_
            have G11 := Aside0.mk (Row.new wn 132 (zs 64))
            have q11 : w.heap.size + 1 + 1 < wn.heap.size := HW.out.lt
            have q1011 : g10 < wn.heap.size := G10.out.lt
            generalize hg11 : wn.heap.size = g11 at G11 q11 q1011 ⊢
            have HS := Aside0.mk (HS.out.alloc (.cells (arr .u32 (zs 64)) 132))
            have HR := Aside0.mk (HR.out.alloc (.cells (arr .u32 (zs 64)) 132))
            have HW := Aside0.mk (HW.out.alloc (.cells (arr .u32 (zs 64)) 132))
            have G10 := Aside0.mk (G10.out.alloc (.cells (arr .u32 (zs 64)) 132))
            have HBl := Aside0.mk (below_alloc HBl.out (.cells (arr .u32 (zs 64)) 132))
            generalize wn.alloc (.cells (arr .u32 (zs 64)) 132) = wn at *
            refine hK.out _ _ HS.out (fun _ => ?_)
            clear hK K
            refine one_ (i := 1) (N := some 80) #[true, true, true, true, false, false] rfl rfl (by kernel_rfl) (by decide) (fun K hK => ?_)
            refine goes_ Tryd.func87 (by kernel_rfl) rfl #[] (by rfl) rfl rfl (by simp) ?_
            refine (constants_calls _).mono ?_
            rintro e wn ⟨rfl, hb⟩
            refine ⟨_, rfl, ?_⟩
            have HS := Aside0.mk (HS.out.keep hb)
            have HR := Aside0.mk (HR.out.keep hb)
            have HW := Aside0.mk (HW.out.keep hb)
            have G10 := Aside0.mk (G10.out.keep hb)
            have G11 := Aside0.mk (G11.out.keep hb)
            have HBl := Aside0.mk (below2 HBl.out HBl.out.size hb)
            clear hb
            refine hK.out _ _ HS.out (fun _ => ?_)
            clear hK K
            exact norm_ rfl (hcont (g10, g11) _ ⟨HS.out, HR.out, HW.out, G10.out, G11.out, by omega, by omega, by omega, HBl.out⟩)
        · refine value_ (by rfl) rfl (alloc_run _ 132 _ (hz _) rfl) ?_
          have G11 := Aside0.mk (Row.new wr 132 (zs 64))
          have q11 : w.heap.size + 1 + 1 < wr.heap.size := HW.out.lt
          generalize hg11 : wr.heap.size = g11 at G11 q11 ⊢
          have HS := Aside0.mk (HS.out.alloc (.cells (arr .u32 (zs 64)) 132))
          have HR := Aside0.mk (HR.out.alloc (.cells (arr .u32 (zs 64)) 132))
          have HW := Aside0.mk (HW.out.alloc (.cells (arr .u32 (zs 64)) 132))
          have HBl := Aside0.mk (below_alloc HBl.out (.cells (arr .u32 (zs 64)) 132))
          generalize wr.alloc (.cells (arr .u32 (zs 64)) 132) = wn at *
          refine hK.out _ _ HS.out (fun _ => ?_)
          clear hK K
          refine two_ (i := 1) (Ni := some 80) (j := 2) (Nj := some 10) #[true, true, false, true, false, false] #[true, false, true, true, false, false] rfl rfl rfl rfl (by kernel_rfl) (by decide) (by decide) (fun K hK => ?_) (fun K hK => ?_)
          · refine goes_ Tryd.func87 (by kernel_rfl) rfl #[] (by rfl) rfl rfl (by simp) ?_
            refine (constants_calls _).mono ?_
            rintro e wn ⟨rfl, hb⟩
            refine ⟨_, rfl, ?_⟩
            have HS := Aside0.mk (HS.out.keep hb)
            have HR := Aside0.mk (HR.out.keep hb)
            have HW := Aside0.mk (HW.out.keep hb)
            have G11 := Aside0.mk (G11.out.keep hb)
            have HBl := Aside0.mk (below2 HBl.out HBl.out.size hb)
            clear hb
            refine hK.out _ _ HS.out (fun _ => ?_)
            clear hK K
            refine one_ (i := 2) (N := some 10) #[true, true, true, true, false, false] rfl rfl (by kernel_rfl) (by decide) (fun K hK => ?_)
            refine value_ (by rfl) rfl (alloc_run _ 115 _ (hz8 _) rfl) ?_
            have G10 := Aside0.mk (Row.new wn 115 (zs 8))
            have q10 : w.heap.size + 1 + 1 < wn.heap.size := HW.out.lt
            have q1011 : g11 < wn.heap.size := G11.out.lt
            generalize hg10 : wn.heap.size = g10 at G10 q10 q1011 ⊢
            have HS := Aside0.mk (HS.out.alloc (.cells (arr .u32 (zs 8)) 115))
            have HR := Aside0.mk (HR.out.alloc (.cells (arr .u32 (zs 8)) 115))
            have HW := Aside0.mk (HW.out.alloc (.cells (arr .u32 (zs 8)) 115))
            have G11 := Aside0.mk (G11.out.alloc (.cells (arr .u32 (zs 8)) 115))
            have HBl := Aside0.mk (below_alloc HBl.out (.cells (arr .u32 (zs 8)) 115))
            generalize wn.alloc (.cells (arr .u32 (zs 8)) 115) = wn at *
            refine hK.out _ _ HS.out (fun _ => ?_)
            clear hK K
            exact norm_ rfl (hcont (g10, g11) _ ⟨HS.out, HR.out, HW.out, G10.out, G11.out, by omega, by omega, by omega, HBl.out⟩)
          · refine value_ (by rfl) rfl (alloc_run _ 115 _ (hz8 _) rfl) ?_
            have G10 := Aside0.mk (Row.new wn 115 (zs 8))
            have q10 : w.heap.size + 1 + 1 < wn.heap.size := HW.out.lt
            have q1011 : g11 < wn.heap.size := G11.out.lt
            generalize hg10 : wn.heap.size = g10 at G10 q10 q1011 ⊢
            have HS := Aside0.mk (HS.out.alloc (.cells (arr .u32 (zs 8)) 115))
            have HR := Aside0.mk (HR.out.alloc (.cells (arr .u32 (zs 8)) 115))
            have HW := Aside0.mk (HW.out.alloc (.cells (arr .u32 (zs 8)) 115))
            have G11 := Aside0.mk (G11.out.alloc (.cells (arr .u32 (zs 8)) 115))
            have HBl := Aside0.mk (below_alloc HBl.out (.cells (arr .u32 (zs 8)) 115))
            generalize wn.alloc (.cells (arr .u32 (zs 8)) 115) = wn at *
            refine hK.out _ _ HS.out (fun _ => ?_)
            clear hK K
            refine one_ (i := 1) (N := some 80) #[true, true, true, true, false, false] rfl rfl (by kernel_rfl) (by decide) (fun K hK => ?_)
            refine goes_ Tryd.func87 (by kernel_rfl) rfl #[] (by rfl) rfl rfl (by simp) ?_
            refine (constants_calls _).mono ?_
            rintro e wn ⟨rfl, hb⟩
            refine ⟨_, rfl, ?_⟩
            have HS := Aside0.mk (HS.out.keep hb)
            have HR := Aside0.mk (HR.out.keep hb)
            have HW := Aside0.mk (HW.out.keep hb)
            have G10 := Aside0.mk (G10.out.keep hb)
            have G11 := Aside0.mk (G11.out.keep hb)
            have HBl := Aside0.mk (below2 HBl.out HBl.out.size hb)
            clear hb
            refine hK.out _ _ HS.out (fun _ => ?_)
            clear hK K
            exact norm_ rfl (hcont (g10, g11) _ ⟨HS.out, HR.out, HW.out, G10.out, G11.out, by omega, by omega, by omega, HBl.out⟩)
end Go.Proofs.YtpgfafpjfdbjmaaDoor
end
section
namespace Go.Proofs.YtpgfafpjfdbjmaaDoor
open Go.RowKit Q Go.Proofs.YtpgfafpjfdbjmaaDoorW.PrintWords Go.Proofs.YtpgfafpjfdbjmaaDoorW.PrintLast Go.Proofs.YtpgfafpjfdbjmaaDoorW.PrintMore
theorem wraps_u32 (n : Int) (h₀ : 0 ≤ n) (h₁ : n < 2 ^ 32) : IntKind.u32.wrap n = n := by rw [IntKind.wrap_u32]; omega
theorem u32_or8 (x y : Int) (hx0 : 0 ≤ x) (hx : x % 256 = 0) (hx1 : x < 4294967296) (h0 : 0 ≤ y) (h1 : y < 256) : bits .or .u32 x y = x + y :=
  bits_join .u32 32 (by decide) wraps_u32 8 x y hx0 hx hx1 h0 h1 (by omega)
theorem u32_or16 (x y : Int) (hx0 : 0 ≤ x) (hx : x % 65536 = 0) (hx1 : x < 4294967296) (h0 : 0 ≤ y) (h1 : y < 65536) : bits .or .u32 x y = x + y :=
  bits_join .u32 32 (by decide) wraps_u32 16 x y hx0 hx hx1 h0 h1 (by omega)
theorem u32_or24 (x y : Int) (hx0 : 0 ≤ x) (hx : x % 16777216 = 0) (hx1 : x < 4294967296) (h0 : 0 ≤ y) (h1 : y < 16777216) : bits .or .u32 x y = x + y :=
  bits_join .u32 32 (by decide) wraps_u32 24 x y hx0 hx hx1 h0 h1 (by omega)
theorem word_ref (a b c d : Int) (ha : 0 ≤ a ∧ a ≤ 255) (hb : 0 ≤ b ∧ b ≤ 255) (hc : 0 ≤ c ∧ c ≤ 255) (hd : 0 ≤ d ∧ d ≤ 255) :
    Go.bits .or .u32 (Go.bits .or .u32 (Go.bits .or .u32 (((a % 4294967296) * 16777216) % 4294967296) (((b % 4294967296) * 65536) % 4294967296)) (((c % 4294967296) * 256) % 4294967296)) (d % 4294967296) = a * 16777216 + b * 65536 + c * 256 + d := by
  have e1 := u32_or24 (((a % 4294967296) * 16777216) % 4294967296) (((b % 4294967296) * 65536) % 4294967296) (by omega) (by omega) (by omega) (by omega) (by omega)
  have e2 := u32_or16 (((a % 4294967296) * 16777216) % 4294967296 + ((b % 4294967296) * 65536) % 4294967296) (((c % 4294967296) * 256) % 4294967296) (by omega) (by omega) (by omega) (by omega) (by omega)
  have e3 := u32_or8 (((a % 4294967296) * 16777216) % 4294967296 + ((b % 4294967296) * 65536) % 4294967296 + ((c % 4294967296) * 256) % 4294967296) (d % 4294967296) (by omega) (by omega) (by omega) (by omega) (by omega)
  rw [e1, e2, e3]
  omega
theorem acc4 (b : ByteArray) (i : Nat) : acc b i 4 = byteAt b (4 * i) * 16777216 + byteAt b (4 * i + 1) * 65536 + byteAt b (4 * i + 2) * 256 + byteAt b (4 * i + 3) := by
  have h0 := byteAt_rng b (4 * i)
  have h1 := byteAt_rng b (4 * i + 1)
  have h2 := byteAt_rng b (4 * i + 2)
  have h3 := byteAt_rng b (4 * i + 3)
  unfold acc acc acc acc acc
  rw [Nat.add_zero]
  generalize byteAt b (4 * i) = x0 at *
  generalize byteAt b (4 * i + 1) = x1 at *
  generalize byteAt b (4 * i + 2) = x2 at *
  generalize byteAt b (4 * i + 3) = x3 at *
  have e1 := u32_or8 (0 * 256 % 4294967296) x0 (by omega) (by omega) (by omega) (by omega) (by omega)
  have e2 := u32_or8 ((0 * 256 % 4294967296 + x0) * 256 % 4294967296) x1 (by omega) (by omega) (by omega) (by omega) (by omega)
  have e3 := u32_or8 (((0 * 256 % 4294967296 + x0) * 256 % 4294967296 + x1) * 256 % 4294967296) x2 (by omega) (by omega) (by omega) (by omega) (by omega)
  have e4 := u32_or8 ((((0 * 256 % 4294967296 + x0) * 256 % 4294967296 + x1) * 256 % 4294967296 + x2) * 256 % 4294967296) x3 (by omega) (by omega) (by omega) (by omega) (by omega)
  rw [e1, e2, e3, e4]
  omega
theorem wl_stable (b : ByteArray) (i i' j : Nat) (hj : j < i) (hi : i ≤ i') : (wl b i')[j]? = (wl b i)[j]? := by
  induction i' with
  | zero => obtain rfl : i = 0 := by omega
            rfl
  | succ i' ih =>
    rcases Nat.lt_or_ge i (i' + 1) with h | h
    · rw [wl, List.getElem?_set, if_neg (by omega)]
      exact ih (by omega)
    · obtain rfl : i = i' + 1 := by omega
      rfl
theorem wlAll_at (b : ByteArray) (i : Nat) (hi : i < 64) : (wlAll b).getD i 0 = wAt b (wl b i) i := by
  rw [List.getD_eq_getElem?_getD]
  unfold wlAll
  rw [wl_stable b (i + 1) 64 i (by omega) (by omega), wl, List.getElem?_set, if_pos rfl, wl_len, if_pos hi]
  rfl
theorem wl_get (b : ByteArray) (i j : Nat) (hj : j < i) (hi : i ≤ 64) : (wl b i).getD j 0 = (wlAll b).getD j 0 := by
  rw [List.getD_eq_getElem?_getD, List.getD_eq_getElem?_getD]
  unfold wlAll
  rw [wl_stable b i 64 j hj hi]
theorem wlAll_len (b : ByteArray) : (wlAll b).length = 64 := wl_len b 64
theorem take_next (l : List Int) (i : Nat) (h : i < l.length) : l.take (i + 1) = l.take i ++ [l.getD i 0] := by
  rw [List.take_succ_eq_append_getElem h, List.getD_eq_getElem?_getD, List.getElem?_eq_getElem h]
  rfl
theorem rd_take (l : List Int) (i j : Nat) (h : j < i) : rd (l.take i) (j : Int) = l.getD j 0 := by
  unfold rd
  rw [List.getD_eq_getElem?_getD, List.getD_eq_getElem?_getD, List.getElem?_take, if_pos (by omega)]
  rfl
theorem rot_f (x n : Int) (h0 : 0 ≤ n) (h1 : n ≤ 32) : sluicegateref03_rot.f x n = some (rr x n) := by
  unfold sluicegateref03_rot.f rr
  have e : wrap64 (32 - n) = 32 - n := by unfold wrap64; omega
  have e2 : IntKind.u64.wrap (32 - n) = 32 - n := by rw [IntKind.wrap_u64]; omega
  rw [if_pos h0, e, e2, if_pos (by omega)]
theorem words_l1 (W : List Int) (hW : W.length = 64) (hrec : ∀ i, 16 ≤ i → i < 64 → W.getD i 0 = (W.getD (i - 16) 0 + W.getD (i - 7) 0 + sg0 (W.getD (i - 15) 0) + sg1 (W.getD (i - 2) 0)) % 4294967296) (d : Nat) : ∀ (k i : Nat), i + d = 64 → 16 ≤ i → d < k → sluicegateref03_words.l1 k (W.take i) (i : Int) = some W := by
  induction d with
  | zero =>
    intro k i hi h16 hk
    obtain ⟨k, rfl⟩ : ∃ m, k = m + 1 := ⟨k - 1, by omega⟩
    have hi64 : ¬ (i : Int) < 64 := by omega
    simp only [sluicegateref03_words.l1]
    rw [if_neg hi64, List.take_of_length_le (by omega)]
  | succ d ih =>
    intro k i hi h16 hk
    obtain ⟨k, rfl⟩ : ∃ m, k = m + 1 := ⟨k - 1, by omega⟩
    have hl : (W.take i).length = i := by rw [List.length_take]; omega
    have e15 : Hid (wrap64 ((i : Int) - 15) = ((i - 15 : Nat) : Int)) := Lib.hid (by unfold wrap64; omega)
    have e2 : Hid (wrap64 ((i : Int) - 2) = ((i - 2 : Nat) : Int)) := Lib.hid (by unfold wrap64; omega)
    have e16 : Hid (wrap64 ((i : Int) - 16) = ((i - 16 : Nat) : Int)) := Lib.hid (by unfold wrap64; omega)
    have e7 : Hid (wrap64 ((i : Int) - 7) = ((i - 7 : Nat) : Int)) := Lib.hid (by unfold wrap64; omega)
    have e1 : Hid (wrap64 ((i : Int) + 1) = ((i + 1 : Nat) : Int)) := Lib.hid (by unfold wrap64; omega)
    have key := hrec i h16 (by omega)
    have hn := take_next W i (by omega)
    have r15 := rd_take W i (i - 15) (by omega)
    have r16 := rd_take W i (i - 16) (by omega)
    have r7 := rd_take W i (i - 7) (by omega)
    have r2 := rd_take W i (i - 2) (by omega)
    have hih := ih k (i + 1) (by omega) (by omega) (by omega)
    rw [hn, key] at hih
    simp only [sluicegateref03_words.l1]
    rw [e15.out, e2.out, e16.out, e7.out, e1.out, hl, r15, r16, r7, r2]
    clear key hn r15 r16 r7 r2 ih hrec hl
    generalize W.getD (i - 15) 0 = x15 at *
    generalize W.getD (i - 16) 0 = x16 at *
    generalize W.getD (i - 7) 0 = x7 at *
    generalize W.getD (i - 2) 0 = x2 at *
    generalize W.take i = T at *
    rw [if_pos (by omega), if_pos (by omega), if_pos (by omega), rot_f x15 7 (by omega) (by omega)]
    simp only [Option.bind_some]
    rw [rot_f x15 18 (by omega) (by omega)]
    simp only [Option.bind_some]
    rw [if_pos (by omega), if_pos (by omega), rot_f x2 17 (by omega) (by omega)]
    simp only [Option.bind_some]
    rw [rot_f x2 19 (by omega) (by omega)]
    simp only [Option.bind_some]
    rw [if_pos (by omega), if_pos (by omega), if_pos (by omega), if_pos (by omega), if_pos (by omega)]
    unfold sg0 sg1 at hih
    generalize Go.bits .xor .u32 (Go.bits .xor .u32 (rr x15 7) (rr x15 18)) (x15 / 8) = s0 at *
    generalize Go.bits .xor .u32 (Go.bits .xor .u32 (rr x2 17) (rr x2 19)) (x2 / 1024) = s1 at *
    have hw : (((x16 + s0) % 4294967296 + x7) % 4294967296 + s1) % 4294967296 = (x16 + x7 + s0 + s1) % 4294967296 := by omega
    rw [hw]
    exact hih
def numsB (l : List UInt8) : List Int := l.map fun x => (x.toNat : Int)
theorem rd_nums (l : List UInt8) (n : Int) (j : Nat) (hn : n = (j : Int)) (h : j < l.length) : rd (numsB l) n = byteAt ⟨l.toArray⟩ j := by
  subst hn
  unfold rd numsB byteAt
  rw [List.getD_eq_getElem?_getD, List.getD_eq_getElem?_getD, List.getElem?_map, show ((j : Int)).toNat = j by omega, List.getElem?_eq_getElem h]
  rfl
theorem words_l0 (l : List UInt8) (hl : l.length = 64) (W : List Int) (hW : W.length = 64) (hrec : ∀ i, 16 ≤ i → i < 64 → W.getD i 0 = (W.getD (i - 16) 0 + W.getD (i - 7) 0 + sg0 (W.getD (i - 15) 0) + sg1 (W.getD (i - 2) 0)) % 4294967296)
    (hfst : ∀ i, i < 16 → W.getD i 0 = byteAt ⟨l.toArray⟩ (4 * i) * 16777216 + byteAt ⟨l.toArray⟩ (4 * i + 1) * 65536 + byteAt ⟨l.toArray⟩ (4 * i + 2) * 256 + byteAt ⟨l.toArray⟩ (4 * i + 3)) (d : Nat) : ∀ (k i : Nat), i + d = 16 → d + 49 < k → sluicegateref03_words.l0 k (numsB l) (W.take i) (i : Int) = some W := by
  have hnl : (numsB l).length = 64 := by unfold numsB; rw [List.length_map, hl]
  induction d with
  | zero =>
    intro k i hi hk
    obtain ⟨k, rfl⟩ : ∃ m, k = m + 1 := ⟨k - 1, by omega⟩
    have hi16 : ¬ (i : Int) < 16 := by omega
    have h := words_l1 W hW hrec (64 - i) k i (by omega) (by omega) (by omega)
    have hii : (i : Int) = 16 := by omega
    rw [hii] at h
    simp only [sluicegateref03_words.l0]
    rw [if_neg hi16]
    exact h
  | succ d ih =>
    intro k i hi hk
    obtain ⟨k, rfl⟩ : ∃ m, k = m + 1 := ⟨k - 1, by omega⟩
    have hlt : (W.take i).length = i := by rw [List.length_take]; omega
    have e4 : Hid (wrap64 (4 * (i : Int)) = 4 * (i : Int)) := Lib.hid (by unfold wrap64; omega)
    have f1 : Hid (wrap64 (4 * (i : Int) + 1) = 4 * (i : Int) + 1) := Lib.hid (by unfold wrap64; omega)
    have f2 : Hid (wrap64 (4 * (i : Int) + 2) = 4 * (i : Int) + 2) := Lib.hid (by unfold wrap64; omega)
    have f3 : Hid (wrap64 (4 * (i : Int) + 3) = 4 * (i : Int) + 3) := Lib.hid (by unfold wrap64; omega)
    have e1 : Hid (wrap64 ((i : Int) + 1) = ((i + 1 : Nat) : Int)) := Lib.hid (by unfold wrap64; omega)
    have key := hfst i (by omega)
    have hn := take_next W i (by omega)
    have b0 := rd_nums l (4 * (i : Int)) (4 * i) (by omega) (by omega)
    have b1 := rd_nums l (4 * (i : Int) + 1) (4 * i + 1) (by omega) (by omega)
    have b2 := rd_nums l (4 * (i : Int) + 2) (4 * i + 2) (by omega) (by omega)
    have b3 := rd_nums l (4 * (i : Int) + 3) (4 * i + 3) (by omega) (by omega)
    have hw := word_ref _ _ _ _ (byteAt_rng ⟨l.toArray⟩ (4 * i)) (byteAt_rng ⟨l.toArray⟩ (4 * i + 1)) (byteAt_rng ⟨l.toArray⟩ (4 * i + 2)) (byteAt_rng ⟨l.toArray⟩ (4 * i + 3))
    have hih := ih k (i + 1) (by omega) (by omega)
    rw [hn, key, ← hw] at hih
    simp only [sluicegateref03_words.l0]
    rw [e4.out, f1.out, f2.out, f3.out, e1.out, hnl, hlt, b0, b1, b2, b3]
    rw [if_pos (by omega), if_pos (by omega), if_pos (by omega), if_pos (by omega), if_pos (by omega), if_pos (by omega), if_pos (by omega), if_pos (by omega), if_pos (by omega), if_pos (by omega)]
    exact hih
theorem words_f (l : List UInt8) (hl : l.length = 64) : sluicegateref03_words.f 70 (numsB l) = some (wlAll ⟨l.toArray⟩) := by
  have h := words_l0 l hl (wlAll ⟨l.toArray⟩) (wlAll_len _) (fun i h16 hi => by
    have key := wlAll_at ⟨l.toArray⟩ i hi
    unfold wAt at key
    rw [if_neg (by omega), wl_get _ i _ (by omega) (by omega), wl_get _ i _ (by omega) (by omega), wl_get _ i _ (by omega) (by omega), wl_get _ i _ (by omega) (by omega)] at key
    exact key) (fun i hi => by
    have key := wlAll_at ⟨l.toArray⟩ i (by omega)
    unfold wAt at key
    rw [if_pos (by omega), acc4] at key
    exact key) 16 70 0 rfl (by decide)
  rw [List.take_zero] at h
  exact h
end Go.Proofs.YtpgfafpjfdbjmaaDoor
end
section
namespace Go.Proofs.YtpgfafpjfdbjmaaDoor
open Go.RowKit Q Go.Proofs.YtpgfafpjfdbjmaaDoorW.PrintWords Go.Proofs.YtpgfafpjfdbjmaaDoorW.PrintLast Go.Proofs.YtpgfafpjfdbjmaaDoorW.PrintMore
def H8 : V8 := ⟨1779033703, 3144134277, 1013904242, 2773480762, 1359893119, 2600822924, 528734635, 1541459225⟩
def V8.cells (x : V8) : Array Value := #[.int .u32 x.a, .int .u32 x.b, .int .u32 x.c, .int .u32 x.d, .int .u32 x.e, .int .u32 x.f, .int .u32 x.g, .int .u32 x.h]
def v8 (l : List Int) : V8 := ⟨l.getD 0 0, l.getD 1 0, l.getD 2 0, l.getD 3 0, l.getD 4 0, l.getD 5 0, l.getD 6 0, l.getD 7 0⟩
theorem v8_l (l : List Int) (h : l.length = 8) : (v8 l).l = l := by
  match l, h with
  | [a, b, c, d, e, f, g, i], _ => rfl
def bv (x : V8) (b : ByteArray) : V8 := v8 (blk KL x b)
theorem blk_len (K : List Int) (x : V8) (b : ByteArray) : (blk K x b).length = 8 := by unfold blk; rw [ad_len]; rfl
theorem bv_l (x : V8) (b : ByteArray) : (bv x b).l = blk KL x b := v8_l _ (blk_len _ _ _)
theorem block_any (x : V8) (b : ByteArray) (hb : b.size = 64) (w : World) :
    Calls Tryd.prog 73 #[.agg x.cells, .string b] w fun e w' => e = .returned (.agg (bv x b).cells) ∧ Below w.heap.size w w' := by
  have := block_calls x.a x.b x.c x.d x.e x.f x.g x.h b hb _ (Lib.hid rfl) w
  rw [← bv_l] at this
  exact this
def fd (x : V8) (t : ByteArray) : Nat → V8
  | 0 => x
  | k + 1 => bv (fd x t k) (t.extract (64 * k) (64 * k + 64))
def DSt (w : World) (g : Nat) (x : V8) (r : ByteArray) (n : Int) : Prop := w.heap[g]? = some (.cells #[.int .u32 x.a, .int .u32 x.b, .int .u32 x.c, .int .u32 x.d, .int .u32 x.e, .int .u32 x.f, .int .u32 x.g, .int .u32 x.h, .string r, .int .i64 n] 118 (0, 0))
theorem DSt.lt {w : World} {g : Nat} {x : V8} {r : ByteArray} {n : Int} (h : DSt w g x r n) : g < w.heap.size := (Array.getElem?_eq_some_iff.1 h).1
theorem DSt.c8 {w : World} {g : Nat} {x : V8} {r : ByteArray} {n : Int} (h : DSt w g x r n) : w.cell? ⟨g, 8, none⟩ = some (.string r) := by rw [Lib.cell_of_heap h]; rfl
theorem DSt.c9 {w : World} {g : Nat} {x : V8} {r : ByteArray} {n : Int} (h : DSt w g x r n) : w.cell? ⟨g, 9, none⟩ = some (.int .i64 n) := by rw [Lib.cell_of_heap h]; rfl
theorem DSt.free {w : World} {g : Nat} {x : V8} {r : ByteArray} {n : Int} (h : DSt w g x r n) (i : Nat) : w.frozen? ⟨g, i, none⟩ = false := Lib.frozen_of_heap h i
theorem DSt.set8 {w : World} {g : Nat} {x : V8} {r : ByteArray} {n : Int} (h : DSt w g x r n) (r' : ByteArray) : DSt (w.setCell ⟨g, 8, none⟩ (.string r')) g x r' n := by
  have : w.heap[g]? = _ := h
  simp [DSt, World.setCell, Array.getElem?_modify, this]
theorem DSt.set9 {w : World} {g : Nat} {x : V8} {r : ByteArray} {n : Int} (h : DSt w g x r n) (n' : Int) : DSt (w.setCell ⟨g, 9, none⟩ (.int .i64 n')) g x r n' := by
  have : w.heap[g]? = _ := h
  simp [DSt, World.setCell, Array.getElem?_modify, this]
theorem DSt.keep {w w' : World} {g : Nat} {x : V8} {r : ByteArray} {n : Int} (h : DSt w g x r n) (hb : Below w.heap.size w w') : DSt w' g x r n := (hb.block g h.lt).trans h
theorem DSt.range {w : World} {g : Nat} {x : V8} {r : ByteArray} {n : Int} (h : DSt w g x r n) : w.rangeAt g 0 x.cells.toList := by
  have := World.rangeAt_of_block h 0 8
  exact this
theorem DSt.there {w : World} {g : Nat} {x : V8} {r : ByteArray} {n : Int} (h : DSt w g x r n) : w.there g 0 8 := by
  intro j hj
  refine ⟨?_, h.free _⟩
  rw [Lib.cell_of_heap h, Nat.zero_add, List.getElem?_toArray, List.getElem?_eq_getElem (by simp; omega)]
  rfl
theorem DSt.setAll {w : World} {g : Nat} {x : V8} {r : ByteArray} {n : Int} (h : DSt w g x r n) (y : V8) : DSt (w.setCells g 0 y.cells.toList) g y r n := by
  have : w.heap[g]? = _ := h
  simp [DSt, V8.cells, World.setCells, World.setCell, Array.getElem?_modify, this]
theorem Bf.setCell {B g : Nat} {w w' : World} (h : Bf B g w w') (i : Nat) (v : Value) : Bf B g w (w'.setCell ⟨g, i, none⟩ v) :=
  h.trans ⟨rfl, rfl, rfl, by simp [World.setCell], fun k _ hk => Below.heap_setCell _ _ _ _ (fun e => hk e)⟩
theorem setCells_other (g : Nat) : ∀ (vs : List Value) (o : Nat) (w : World) (k : Nat), k ≠ g → (w.setCells g o vs).heap[k]? = w.heap[k]? ∧ (w.setCells g o vs).heap.size = w.heap.size ∧ (w.setCells g o vs).os = w.os ∧ (w.setCells g o vs).tape = w.tape ∧ (w.setCells g o vs).output = w.output
  | [], _, _, _, _ => ⟨rfl, rfl, rfl, rfl, rfl⟩
  | v :: vs, o, w, k, hk => by
    have := setCells_other g vs (o + 1) (w.setCell ⟨g, o, none⟩ v) k hk
    refine ⟨this.1.trans (Below.heap_setCell _ _ _ _ (fun e => hk e)), this.2.1.trans (by simp [World.setCell]), this.2.2.1, this.2.2.2.1, this.2.2.2.2⟩
theorem Bf.setCells {B g : Nat} {w w' : World} (h : Bf B g w w') (o : Nat) (vs : List Value) : Bf B g w (w'.setCells g o vs) := by
  have h0 := setCells_other g vs o w' (g + 1) (by omega)
  exact h.trans ⟨h0.2.2.1, h0.2.2.2.1, h0.2.2.2.2, by rw [h0.2.1]; exact Nat.le_refl _, fun k _ hk => (setCells_other g vs o w' k hk).1⟩
set_option maxRecDepth 100000 in
set_option maxHeartbeats 400000 in
theorem dnew_calls (w : World) : Calls Tryd.prog 48 #[] w fun e w' => ∃ g, e = .returned (.pointer (some ⟨g, 0, none⟩)) ∧ DSt w' g H8 ⟨#[]⟩ 0 ∧ w.heap.size ≤ g ∧ Below w.heap.size w w' := by
  go_enter Tryd.func48, Tryd.ntmps48
  go_wp2_with fail
  have hh := begin_calls w
  refine Calls.mono hh ?_
  clear hh
  rintro e w1 ⟨rfl, b1⟩
  have HB := Lib.hid b1
  clear b1
  go_wp2_with fail
  go_ret
  refine ⟨w1.heap.size, rfl, ?_, HB.out.size, below_alloc HB.out _⟩
  unfold DSt
  rw [heap_alloc_new]
  simp [arr, H0, H8]
end Go.Proofs.YtpgfafpjfdbjmaaDoor
end
section
namespace Go.Proofs.YtpgfafpjfdbjmaaDoor
open Go.RowKit Q Go.Proofs.YtpgfafpjfdbjmaaDoorW.PrintWords Go.Proofs.YtpgfafpjfdbjmaaDoorW.PrintLast Go.Proofs.YtpgfafpjfdbjmaaDoorW.PrintMore
theorem DSt.load8 {w : World} {g : Nat} {x : V8} {r : ByteArray} {n : Int} (h : DSt w g x r n) : (Instr.loadAt 115 (.pointer (some ⟨g, 0, none⟩))).run Tryd.prog w = .ok (.agg x.cells) w :=
  run_loadAt_mid w g 0 115 x.cells.toList _ h.range Tryd.underlying115 rfl (by rw [size8]; rfl)
theorem load8_run (ev : Operand → Value) (x : Operand) {W : World} {g : Nat} {y : V8} {r : ByteArray} {n : Int} (h : DSt W g y r n) (hx : ev x = .pointer (some ⟨g, 0, none⟩)) {o : Oper} (ho : o.op = .load 115 x) :
    (execOp ev o).run Tryd.prog W = .ok (.value (.agg y.cells)) W := by
  unfold execOp
  simp only [ho, hx, Sem.run_bind, Result.andThen_ok, h.load8, Sem.run_pure]
theorem store8_run (ev : Operand → Value) (x y : Operand) {W : World} {g : Nat} {x0 : V8} {r : ByteArray} {n : Int} (h : DSt W g x0 r n) (z : V8) (hx : ev x = .pointer (some ⟨g, 0, none⟩)) (hy : ev y = .agg z.cells) {o : Oper} (ho : o.op = .store 115 x y) :
    (execOp ev o).run Tryd.prog W = .ok .skip (W.setCells g 0 z.cells.toList) := by
  unfold execOp
  simp only [ho, hx, hy, Sem.run_bind, Result.andThen_ok, run_storeAt_mid W g 0 115 z.cells h.there (by rw [size8]; rfl) (arr_one .u32 z.l), Sem.run_pure]
set_option maxRecDepth 100000 in
set_option maxHeartbeats 1000000 in
theorem dadd_calls (g : Nat) (x : V8) (r s : ByteArray) (n : Nat) (w : World) (h : DSt w g x r n) (hr : r.size ≤ 64) (hs : s.size ≤ 140737488355328) (hn : n ≤ 140737488355328) :
    Calls Tryd.prog 49 #[.pointer (some ⟨g, 0, none⟩), .string s] w fun e w' => e = .returned (.int .i64 (n + s.size : Nat)) ∧ DSt w' g (fd x (r ++ s) ((r ++ s).size / 64)) ((r ++ s).extract (64 * ((r ++ s).size / 64)) (r ++ s).size) (n + s.size : Nat) ∧ Bf w.heap.size g w w' := by
  have HD : Aside0 (DSt ((w.setCell ⟨g, 9, none⟩ (.int .i64 ((n + s.size : Nat) : Int))).setCell ⟨g, 8, none⟩ (.string (r ++ s))) g x (r ++ s) ((n + s.size : Nat) : Int)) := ⟨(h.set9 _).set8 _⟩
  have HF : Aside0 (Bf w.heap.size g w ((w.setCell ⟨g, 9, none⟩ (.int .i64 ((n + s.size : Nat) : Int))).setCell ⟨g, 8, none⟩ (.string (r ++ s)))) := ⟨((Bf.refl _ _ _).setCell _ _).setCell _ _⟩
  have HG := Aside0.mk h.lt
  have c8 := h.c8
  have c9 := h.c9
  have f8 := h.free 8
  have f9 := h.free 9
  have hw9 : IntKind.i64.wrap ((n : Int) + (s.size : Int)) = (n : Int) + (s.size : Int) := IntWalk.i64_in _ (by omega)
  have hsz : r.size + s.size ≤ 9223372036854775807 := by omega
  clear h
  go_enter Tryd.func49, Tryd.ntmps49
  go_wp2_with fail
  rw [show (n : Int) + (s.size : Int) = ((n + s.size : Nat) : Int) by omega]
  clear c8 c9 f8 f9 hw9 hsz
  have hT : (r ++ s).size ≤ 140737488355400 := by rw [ByteArray.size_append]; omega
  generalize (w.setCell ⟨g, 9, none⟩ (.int .i64 ((n + s.size : Nat) : Int))).setCell ⟨g, 8, none⟩ (.string (r ++ s)) = w1 at *
  generalize hN : ((n + s.size : Nat) : Int) = N at *
  generalize ht : r ++ s = t at *
  have HN := Lib.hid hN
  have Ht := Lib.hid ht
  clear hN ht
  go_loopg [] (t.size / 64) (fun m wr => ∃ k : Nat, k + m = t.size / 64 ∧ Aside0 (DSt wr g (fd x t k) (t.extract (64 * k) t.size) N) ∧ Aside0 (Bf w.heap.size g w wr))
  case atStart => exact ⟨0, by omega, ⟨by rw [Nat.mul_zero, ByteArray.extract_zero_size]; exact HD.out⟩, HF⟩
  case round =>
    clear HD HF
    obtain ⟨k, hk, HD, HF⟩ := hrel
    have hq : (t.extract (64 * k) t.size).size = t.size - 64 * k := by rw [ByteArray.size_extract]; omega
    have hx1 : Hid (64 * k + 64 ≤ t.size → bv (fd x t k) ((t.extract (64 * k) t.size).extract 0 64) = fd x t (k + 1)) := Lib.hid (by intro h; rw [fd, ByteArray.extract_extract]; congr 2; omega)
    have hq1 : Hid ((t.extract (64 * k) t.size).extract 64 (t.extract (64 * k) t.size).size = t.extract (64 * (k + 1)) t.size) := Lib.hid (by rw [hq, ByteArray.extract_extract]; congr 1 <;> omega)
    have c8 := HD.out.c8
    have c9 := HD.out.c9
    have HR : Hid (t.extract (64 * k) t.size = t.extract (64 * (t.size / 64)) t.size ∧ fd x t k = fd x t (t.size / 64) ∨ 64 ≤ (t.extract (64 * k) t.size).size) := Lib.hid (by
      rcases Nat.lt_or_ge k (t.size / 64) with h | h
      · right; omega
      · left; have : k = t.size / 64 := by omega
        rw [this]; exact ⟨rfl, rfl⟩)
    generalize fd x t k = y at *
    generalize t.extract (64 * k) t.size = q at *
    have hqm : q.size ≤ 140737488355400 := by omega
    by_cases hge : 64 ≤ q.size
    · have hlt : k + 1 ≤ t.size / 64 := by omega
      clear hq
      go_wp2_with fail
      have hq64 : (q.extract 0 64).size = 64 := by rw [ByteArray.size_extract]; omega
      refine start_ (n := 23) (S := fun w' => w'.cell? ⟨g, 8, none⟩ = some (.string q) ∧ Aside0 (DSt w' g y q N) ∧ Aside0 (Bf w.heap.size g w w')) (ds := [19, 22]) #[false, false, false, false, false, false, false, false, false, false, false, false, false, false, false, false, false, false, false, false, false, false, false] (by kernel_rfl) rfl rfl ⟨DSt.c8 (w := wr.drew) HD.out, ⟨HD.out⟩, ⟨HF.out.trans ⟨rfl, rfl, rfl, Nat.le_refl _, fun _ _ _ => rfl⟩⟩⟩ (fun hHeld => ?_)
      refine pure_ (i := 0) (N := some 30) (v := ?_) (a' := ?_) #[true, false, false, false, false, false, false, false, false, false, false, false, false, false, false, false, false, false, false, false, false, false, false] rfl rfl (by kernel_rfl) (fun _ _ _ h => h) (Or.inl ⟨by rfl, ?_⟩) ?_ ?_
      rotate_left
      · intro w'
        go_simp
        with_reducible rfl
      rotate_left
      · simp only [Act.put, List.setIfInBounds_toArray, List.set_cons_zero, List.set_cons_succ]
        rfl
      refine pure_ (i := 1) (N := some 31) (v := ?_) (a' := ?_) #[true, true, false, false, false, false, false, false, false, false, false, false, false, false, false, false, false, false, false, false, false, false, false] rfl rfl (by kernel_rfl) (fun _ _ _ h => h) (Or.inl ⟨by rfl, ?_⟩) ?_ ?_
      rotate_left
      · intro w'
        go_simp
        with_reducible rfl
      rotate_left
      · simp only [Act.put, List.setIfInBounds_toArray, List.set_cons_zero, List.set_cons_succ]
        rfl
      refine pure_ (i := 2) (N := some 32) (v := ?_) (a' := ?_) #[true, true, true, false, false, false, false, false, false, false, false, false, false, false, false, false, false, false, false, false, false, false, false] rfl rfl (by kernel_rfl) (fun _ _ _ h => h) (Or.inl ⟨by rfl, ?_⟩) ?_ ?_
      rotate_left
      · intro w'
        go_simp
        with_reducible rfl
      rotate_left
      · simp only [Act.put, List.setIfInBounds_toArray, List.set_cons_zero, List.set_cons_succ]
        rfl
      refine pure_ (i := 3) (N := some 33) (v := ?_) (a' := ?_) #[true, true, true, true, false, false, false, false, false, false, false, false, false, false, false, false, false, false, false, false, false, false, false] rfl rfl (by kernel_rfl) (fun _ _ _ h => h) (Or.inl ⟨by rfl, ?_⟩) ?_ ?_
      rotate_left
      · intro w'
        go_simp
        with_reducible rfl
      rotate_left
      · simp only [Act.put, List.setIfInBounds_toArray, List.set_cons_zero, List.set_cons_succ]
        rfl
      refine pure_ (i := 4) (N := some 34) (v := ?_) (a' := ?_) #[true, true, true, true, true, false, false, false, false, false, false, false, false, false, false, false, false, false, false, false, false, false, false] rfl rfl (by kernel_rfl) (fun _ _ _ h => h) (Or.inl ⟨by rfl, ?_⟩) ?_ ?_
      rotate_left
      · intro w'
        go_simp
        with_reducible rfl
      rotate_left
      · simp only [Act.put, List.setIfInBounds_toArray, List.set_cons_zero, List.set_cons_succ]
        rfl
      refine pure_ (i := 6) (N := some 36) (v := ?_) (a' := ?_) #[true, true, true, true, true, false, true, false, false, false, false, false, false, false, false, false, false, false, false, false, false, false, false] rfl rfl (by kernel_rfl) (fun _ _ _ h => h) (Or.inl ⟨by rfl, ?_⟩) ?_ ?_
      rotate_left
      · intro w'
        go_simp
        with_reducible rfl
      rotate_left
      · simp only [Act.put, List.setIfInBounds_toArray, List.set_cons_zero, List.set_cons_succ]
        rfl
      refine pure_ (i := 7) (N := some 37) (v := ?_) (a' := ?_) #[true, true, true, true, true, false, true, true, false, false, false, false, false, false, false, false, false, false, false, false, false, false, false] rfl rfl (by kernel_rfl) (fun _ _ _ h => h) (Or.inl ⟨by rfl, ?_⟩) ?_ ?_
      rotate_left
      · intro w'
        go_simp
        with_reducible rfl
      rotate_left
      · simp only [Act.put, List.setIfInBounds_toArray, List.set_cons_zero, List.set_cons_succ]
        rfl
      refine pure_ (i := 8) (N := some 38) (v := ?_) (a' := ?_) #[true, true, true, true, true, false, true, true, true, false, false, false, false, false, false, false, false, false, false, false, false, false, false] rfl rfl (by kernel_rfl) (fun _ _ _ h => h) (Or.inl ⟨by rfl, ?_⟩) ?_ ?_
      rotate_left
      · intro w'
        go_simp
        with_reducible rfl
      rotate_left
      · simp only [Act.put, List.setIfInBounds_toArray, List.set_cons_zero, List.set_cons_succ]
        rfl
      refine pure_ (i := 12) (N := some 42) (v := ?_) (a' := ?_) #[true, true, true, true, true, false, true, true, true, false, false, false, true, false, false, false, false, false, false, false, false, false, false] rfl rfl (by kernel_rfl) (fun _ _ _ h => h) (Or.inl ⟨by rfl, ?_⟩) ?_ ?_
      rotate_left
      · intro w'
        go_simp
        with_reducible rfl
      rotate_left
      · simp only [Act.put, List.setIfInBounds_toArray, List.set_cons_zero, List.set_cons_succ]
        rfl
      refine pure_ (i := 13) (N := some 43) (v := ?_) (a' := ?_) #[true, true, true, true, true, false, true, true, true, false, false, false, true, true, false, false, false, false, false, false, false, false, false] rfl rfl (by kernel_rfl) (fun _ _ _ h => h) (Or.inl ⟨by rfl, ?_⟩) ?_ ?_
      rotate_left
      · intro w'
        go_simp
        with_reducible rfl
      rotate_left
      · simp only [Act.put, List.setIfInBounds_toArray, List.set_cons_zero, List.set_cons_succ]
        rfl
      refine pure_ (i := 14) (N := some 44) (v := ?_) (a' := ?_) #[true, true, true, true, true, false, true, true, true, false, false, false, true, true, true, false, false, false, false, false, false, false, false] rfl rfl (by kernel_rfl) (fun _ _ _ h => h) (Or.inl ⟨by rfl, ?_⟩) ?_ ?_
      rotate_left
      · intro w'
        go_simp
        with_reducible rfl
      rotate_left
      · simp only [Act.put, List.setIfInBounds_toArray, List.set_cons_zero, List.set_cons_succ]
        rfl
      refine take_ (i := 5) (N := some 35) (v := ?_) (a' := ?_) #[true, true, true, true, true, true, true, true, true, false, false, false, true, true, true, false, false, false, false, false, false, false, false] rfl rfl (by kernel_rfl) (fun _ _ _ h => h) (Or.inl ⟨by rfl, ?_⟩) hHeld ?_ ?_
      rotate_left
      · rintro w' ⟨s0, s1, s2⟩
        refine load8_run _ (.tmp 34) s1.out ?_ ?_ <;> rfl
      rotate_left
      · simp only [Act.put, List.setIfInBounds_toArray, List.set_cons_zero, List.set_cons_succ]
        rfl
      refine take_ (i := 9) (N := some 39) (v := ?_) (a' := ?_) #[true, true, true, true, true, true, true, true, true, true, false, false, true, true, true, false, false, false, false, false, false, false, false] rfl rfl (by kernel_rfl) (fun _ _ _ h => h) (Or.inl ⟨by rfl, ?_⟩) hHeld ?_ ?_
      rotate_left
      · rintro w' ⟨s0, s1, s2⟩
        go_simp
        with_reducible rfl
      rotate_left
      · simp only [Act.put, List.setIfInBounds_toArray, List.set_cons_zero, List.set_cons_succ]
        rfl
      refine pure_ (i := 10) (N := some 40) (v := ?_) (a' := ?_) #[true, true, true, true, true, true, true, true, true, true, true, false, true, true, true, false, false, false, false, false, false, false, false] rfl rfl (by kernel_rfl) (fun _ _ _ h => h) (Or.inl ⟨by rfl, ?_⟩) ?_ ?_
      rotate_left
      · intro w'
        go_simp
        with_reducible rfl
      rotate_left
      · simp only [Act.put, List.setIfInBounds_toArray, List.set_cons_zero, List.set_cons_succ]
        rfl
      refine take_ (i := 15) (N := some 45) (v := ?_) (a' := ?_) #[true, true, true, true, true, true, true, true, true, true, true, false, true, true, true, true, false, false, false, false, false, false, false] rfl rfl (by kernel_rfl) (fun _ _ _ h => h) (Or.inl ⟨by rfl, ?_⟩) hHeld ?_ ?_
      rotate_left
      · rintro w' ⟨s0, s1, s2⟩
        go_simp
        with_reducible rfl
      rotate_left
      · simp only [Act.put, List.setIfInBounds_toArray, List.set_cons_zero, List.set_cons_succ]
        rfl
      refine pure_ (i := 16) (N := some 46) (v := ?_) (a' := ?_) #[true, true, true, true, true, true, true, true, true, true, true, false, true, true, true, true, true, false, false, false, false, false, false] rfl rfl (by kernel_rfl) (fun _ _ _ h => h) (Or.inl ⟨by rfl, ?_⟩) ?_ ?_
      rotate_left
      · intro w'
        go_simp
        with_reducible rfl
      rotate_left
      · simp only [Act.put, List.setIfInBounds_toArray, List.set_cons_zero, List.set_cons_succ]
        rfl
      refine one_ (i := 11) (N := some 41) #[true, true, true, true, true, true, true, true, true, true, true, true, true, true, true, true, true, false, false, false, false, false, false] rfl rfl (by kernel_rfl) (by decide) (fun K hK => ?_)
      refine goes_ Tryd.func73 (by kernel_rfl) rfl #[.agg y.cells, .string (q.extract 0 64)] (by rfl) rfl rfl (by simp only [List.map_toArray, List.map_cons, List.map_nil]; rfl) ?_
      with_reducible refine (block_any y _ hq64 _).mono ?_
      rintro e w3 ⟨rfl, hb⟩
      refine ⟨_, rfl, ?_⟩
      have HD3 := hHeld.2.1.out.keep hb
      have HF3 := hHeld.2.2.out.trans (Bf.of_below hb hHeld.2.2.out.size)
      refine hK.out _ _ ⟨HD3.c8, ⟨HD3⟩, ⟨HF3⟩⟩ (fun hHeld => ?_)
      clear hK K
      refine norm_ (a' := ?_) ?_ ?_
      rotate_left
      · show Act.put _ (some 41) _ = _
        simp only [Act.put, List.setIfInBounds_toArray, List.set_cons_zero, List.set_cons_succ]
        rfl
      refine pure_ (i := 17) (N := some 47) (v := ?_) (a' := ?_) #[true, true, true, true, true, true, true, true, true, true, true, true, true, true, true, true, true, true, false, false, false, false, false] rfl rfl (by kernel_rfl) (fun _ _ _ h => h) (Or.inl ⟨by rfl, ?_⟩) ?_ ?_
      rotate_left
      · intro w'
        go_simp
        with_reducible rfl
      rotate_left
      · simp only [Act.put, List.setIfInBounds_toArray, List.set_cons_zero, List.set_cons_succ]
        rfl
      refine pure_ (i := 18) (N := some 48) (v := ?_) (a' := ?_) #[true, true, true, true, true, true, true, true, true, true, true, true, true, true, true, true, true, true, true, false, false, false, false] rfl rfl (by kernel_rfl) (fun _ _ _ h => h) (Or.inl ⟨by rfl, ?_⟩) ?_ ?_
      rotate_left
      · intro w'
        go_simp
        with_reducible rfl
      rotate_left
      · simp only [Act.put, List.setIfInBounds_toArray, List.set_cons_zero, List.set_cons_succ]
        rfl
      refine last_ (i := 19) (N := none) #[true, true, true, true, true, true, true, true, true, true, true, true, true, true, true, true, true, true, true, true, false, false, false] rfl rfl (by kernel_rfl) (by decide) (fun K hK => ?_)
      refine skip_ (by rfl) rfl (store8_run _ (.tmp 48) (.tmp 41) hHeld.2.1.out (bv y (q.extract 0 64)) rfl rfl rfl) ?_
      have HD4 := hHeld.2.1.out.setAll (bv y (q.extract 0 64))
      have HF4 := hHeld.2.2.out.setCells 0 (bv y (q.extract 0 64)).cells.toList
      clear hHeld HD3 HF3 hb
      generalize w3.setCells g 0 (bv y (q.extract 0 64)).cells.toList = w4 at *
      have c84 := HD4.c8
      have f84 := HD4.free 8
      have HD5 := Aside0.mk HD4
      have HF5 := Aside0.mk HF4
      clear HD4 HF4
      refine hK.out _ _ ?_
      clear hK K
      refine pure_ (i := 20) (N := some 49) (v := ?_) (a' := ?_) #[true, true, true, true, true, true, true, true, true, true, true, true, true, true, true, true, true, true, true, true, true, false, false] rfl rfl (by kernel_rfl) (fun _ _ _ h => h) (Or.inl ⟨by rfl, ?_⟩) ?_ ?_
      rotate_left
      · intro w'
        go_simp
        with_reducible rfl
      rotate_left
      · simp only [Act.put, List.setIfInBounds_toArray, List.set_cons_zero, List.set_cons_succ]
        rfl
      refine pure_ (i := 21) (N := some 50) (v := ?_) (a' := ?_) #[true, true, true, true, true, true, true, true, true, true, true, true, true, true, true, true, true, true, true, true, true, true, false] rfl rfl (by kernel_rfl) (fun _ _ _ h => h) (Or.inl ⟨by rfl, ?_⟩) ?_ ?_
      rotate_left
      · intro w'
        go_simp
        with_reducible rfl
      rotate_left
      · simp only [Act.put, List.setIfInBounds_toArray, List.set_cons_zero, List.set_cons_succ]
        rfl
      refine last_ (i := 22) (N := none) #[true, true, true, true, true, true, true, true, true, true, true, true, true, true, true, true, true, true, true, true, true, true, true] rfl rfl (by kernel_rfl) (by decide) (fun K hK => ?_)
      refine skip_ (w1 := ?_) (by rfl) rfl ?_ ?_
      rotate_left
      · go_simp
        rfl
      refine hK.out _ _ ?_
      clear hK K
      refine done_ (by kernel_rfl) ?_

      go_wp2_with fail
      obtain ⟨m, rfl⟩ : ∃ m, gk = m + 1 := ⟨gk - 1, by omega⟩
      go_roundg m
      case measure => omega
      case rel =>
        have h1 := HD5.out.set8 (q.extract 64 q.size)
        have h2 := HF5.out.setCell 8 (.string (q.extract 64 q.size))
        have e1 := hx1.out (by omega)
        have e2 := hq1.out
        refine ⟨k + 1, by omega, ⟨?_⟩, ⟨h2⟩⟩
        rw [← e1, ← e2]
        exact h1
    · go_wp2_with fail
      go_ret
      rcases HR.out with ⟨h1, h2⟩ | h1
      · have h3 := HD.out
        rw [h1, h2, ← Ht.out, ← HN.out] at h3
        exact ⟨by rw [HN.out]; rfl, h3, HF.out⟩
      · exact absurd h1 hge
end Go.Proofs.YtpgfafpjfdbjmaaDoor
end
section
namespace Go.Proofs.YtpgfafpjfdbjmaaDoor
open Go.RowKit
section
variable {P : Program}
def RowB (B : Nat) (E : TypeId) (v : Value) (l : List UInt8) (w : World) : Prop :=
  (v = .slice none 0 0 ∧ l = []) ∨
  ∃ g cap cur fz, v = .slice (some ⟨g, 0, none⟩) l.length cap ∧ B ≤ g ∧ w.heap[g]? = some (.cells cur E fz) ∧ (∀ i, l.length ≤ i → i < cap → fz.1 ≤ i → fz.2 ≤ i) ∧ l.length ≤ cap ∧ cap ≤ maxLen ∧ cur.size = cap ∧ cur.toList.take l.length = Lib.byteCells l
theorem RowB.lt {B : Nat} {E : TypeId} {v : Value} {l : List UInt8} {w : World} (h : RowB B E v l w) : ∀ k, v.ownBlock = some k → B ≤ k ∧ k < w.heap.size := by
  intro k hk
  rcases h with ⟨rfl, _⟩ | ⟨g, cap, cur, fz, rfl, hb, hg, _⟩
  · simp [Value.ownBlock] at hk
  · simp [Value.ownBlock] at hk
    subst hk
    exact ⟨hb, (Array.getElem?_eq_some_iff.1 hg).1⟩
theorem RowB.keep {B : Nat} {E : TypeId} {v : Value} {l : List UInt8} {w w' : World} (h : RowB B E v l w) (hk : ∀ g, v.ownBlock = some g → w'.heap[g]? = w.heap[g]?) : RowB B E v l w' := by
  rcases h with h | ⟨g, cap, cur, fz, rfl, hb, hg, rest⟩
  · exact .inl h
  · exact .inr ⟨g, cap, cur, fz, rfl, hb, (hk g rfl).trans hg, rest⟩
theorem RowB.below {B : Nat} {E : TypeId} {v : Value} {l : List UInt8} {w w' : World} (h : RowB B E v l w) (hb : Below w.heap.size w w') : RowB B E v l w' :=
  h.keep (fun g hg => hb.block g (h.lt g hg).2)
theorem RowB.alloc {B : Nat} {E : TypeId} {v : Value} {l : List UInt8} {w : World} (h : RowB B E v l w) (o : Obj) : RowB B E v l (w.alloc o) :=
  h.keep (fun g hg => Lib.alloc_old w o g (h.lt g hg).2)
theorem RowB.grown {B : Nat} {E : TypeId} {v : Value} {l : List UInt8} {w w' : World} {row : Option Nat} (h : RowB B E v l w) (hg : w.grownBy w' row) (hne : ∀ g, v.ownBlock = some g → some g ≠ row) : RowB B E v l w' :=
  h.keep (fun g hk => hg.block g (h.lt g hk).2 (hne g hk))
theorem RowB.raise {B B' : Nat} {E : TypeId} {v : Value} {l : List UInt8} {w : World} (h : RowB B E v l w) (hB : B' ≤ B) : RowB B' E v l w := by
  rcases h with h | ⟨g, cap, cur, fz, rfl, hb, hg, rest⟩
  · exact .inl h
  · exact .inr ⟨g, cap, cur, fz, rfl, by omega, hg, rest⟩
theorem RowB.cells {B : Nat} {E : TypeId} {v : Value} {l : List UInt8} {w : World} (h : RowB B E v l w) {g : Nat} (hg : v.ownBlock = some g) : ∀ j x, l[j]? = some x → w.cell? ⟨g, j, none⟩ = some (.int .u8 (x.toNat : Int)) := by
  intro j x hx
  rcases h with ⟨rfl, _⟩ | ⟨g', cap, cur, fz, rfl, _, hgg, _, _, _, _, htake⟩
  · simp [Value.ownBlock] at hg
  · simp [Value.ownBlock] at hg
    subst hg
    have hu : (Lib.byteCells l)[j]? = some (.int .u8 (x.toNat : Int)) := by simp [Lib.byteCells, hx]
    rw [cell_of_row w g' j cur E fz hgg]
    rw [← htake, List.getElem?_take] at hu
    split at hu
    · simpa using hu
    · cases hu
theorem RowB.ne {B : Nat} {E : TypeId} {v : Value} {l : List UInt8} {w : World} (h : RowB B E v l w) (h0 : l ≠ []) : ∃ g cap, v = .slice (some ⟨g, 0, none⟩) l.length cap ∧ B ≤ g ∧ g < w.heap.size ∧ l.length ≤ cap ∧ cap ≤ maxLen := by
  rcases h with ⟨_, h⟩ | ⟨g, cap, cur, fz, rfl, hb, hgg, _, h1, h2, _⟩
  · exact absurd h h0
  · exact ⟨g, cap, rfl, hb, (Array.getElem?_eq_some_iff.1 hgg).1, h1, h2⟩
theorem byteCells_one (l : List UInt8) : ∀ u ∈ Lib.byteCells l, u.oneCell' = true := by
  intro u hu
  simp only [Lib.byteCells, List.mem_map] at hu
  obtain ⟨x, _, rfl⟩ := hu
  rfl
theorem RowB.bytes (w : World) (E : TypeId) (s : ByteArray) (hs : s.size ≤ maxLen) : RowB w.heap.size E (.slice (some ⟨w.heap.size, 0, none⟩) s.size (grownCap w s.size 0 E)) s.data.toList (Lib.bytesWorld w E s) := by
  have hge := grownCap_ge w s.size 0 E
  have hle := grownCap_le_maxLen w s.size 0 E hs
  have hl : s.data.toList.length = s.size := Array.length_toList
  have hc : (Lib.bytesCells w E s).size = grownCap w s.size 0 E := by
    unfold Lib.bytesCells
    rw [Array.size_append, Array.size_map, Array.size_replicate]
    have : s.data.size = s.size := rfl
    omega
  refine .inr ⟨w.heap.size, _, _, _, by rw [hl], Nat.le_refl _, Lib.bytesWorld_at_new w E s, fun i h1 h2 h3 => ?_, by rw [hl]; exact hge, hle, hc, ?_⟩
  · rw [hc] at h3; simp only at h3; omega
  · unfold Lib.bytesCells Lib.byteCells
    rw [Array.toList_append, Array.toList_map]
    rw [List.take_append_of_le_length (by simp)]
    rw [List.take_of_length_le (by simp)]
theorem RowB.bytesBelow (w : World) (E : TypeId) (s : ByteArray) : Below w.heap.size w (Lib.bytesWorld w E s) :=
  ⟨rfl, rfl, rfl, by rw [Lib.bytesWorld_size]; omega, fun i hi => Lib.bytesWorld_at_old _ _ _ _ hi⟩
theorem run_storeCells_free (g : Nat) (t : TypeId) (fz : Nat × Nat) : ∀ (vs : List Value) (o i : Nat) (cur : Array Value) (w : World), w.heap[g]? = some (.cells cur t fz) → (∀ k, o + i ≤ k → k < o + i + vs.length → fz.1 ≤ k → fz.2 ≤ k) → o + i + vs.length ≤ cur.size → (∀ v ∈ vs, v.oneCell' = true) →
    (storeCells ⟨g, o, none⟩ vs i).run P w = .ok () (w.setRow g (cur.toList.take (o + i) ++ vs ++ cur.toList.drop (o + i + vs.length)).toArray)
  | [], o, i, cur, w, hg, _, _, _ => by
    simp only [storeCells, List.append_nil, List.length_nil, Nat.add_zero, List.take_append_drop, Array.toArray_toList]
    rw [setRow_self w g cur t fz hg]
    rfl
  | v :: rest, o, i, cur, w, hg, hfz, hl, h1 => by
    have hi : o + i < cur.size := by simp at hl; omega
    have hadd : (⟨g, o, none⟩ : Addr).add i = ⟨g, o + i, none⟩ := by unfold Addr.add; split <;> simp_all
    have hcell : w.cell? ⟨g, o + i, none⟩ = some cur[o + i] := by simp [World.cell?, hg, hi]
    have hfro : w.frozen? ⟨g, o + i, none⟩ = false := by
      have := hfz (o + i) (Nat.le_refl _) (by simp)
      obtain ⟨lo, hi'⟩ := fz
      simp only [World.frozen?, hg, Bool.and_eq_false_iff, decide_eq_false_iff_not]
      simp only at this
      omega
    have hst : (store ((⟨g, o, none⟩ : Addr).add i) v).run P w = .ok () (w.setRow g (cur.setIfInBounds (o + i) v)) := by
      rw [hadd, run_store P w _ v _ (h1 v (by simp)), hcell]
      simp [hfro, setCell_eq_setRow w g (o + i) cur t fz v hg]
    have ih := run_storeCells_free g t fz rest o (i + 1) (cur.setIfInBounds (o + i) v) (w.setRow g (cur.setIfInBounds (o + i) v)) (setRow_heap w g cur _ t _ hg) (fun k hk1 hk2 => hfz k (by omega) (by simp at hk2 ⊢; omega)) (by simp at hl ⊢; omega) (fun x hx => h1 x (by simp [hx]))
    simp only [storeCells, Sem.run_bind, hst, Result.andThen_ok, ih, setRow_setRow]
    congr 3
    have e := list_seg_step cur.toList (o + i) v rest (by simp at hl ⊢; omega)
    simpa [Array.toList_setIfInBounds, Nat.add_assoc] using e
theorem run_append_rowB (w : World) (B : Nat) (t ty E : TypeId) (i : TypeInfo) (ht : P.underlying t = some (.slice E)) (hi : P.info? E = some i) (hz : i.zero = some (.int .u8 0)) (hsize : i.size = 1) (hby : i.bytes = 1)
    (v : Value) (l m : List UInt8) (hown : RowB B E v l w) (a : Addr) (c : Nat) (hnews : ∀ j x, m[j]? = some x → w.cell? (a.add j) = some (.int .u8 (x.toNat : Int)))
    (hlen : l.length + m.length ≤ 140737488355328) (hbase : B ≤ w.heap.size) :
    ∃ v' w', (Builtin.append_ #[t, t] ty #[v, .slice (some a) m.length c]).run P w = .ok v' w' ∧ RowB B E v' (l ++ m) w' ∧ w.grownBy w' v.ownBlock := by
  have hm63 : l.length + m.length ≤ maxLen := by unfold maxLen; omega
  have hnews' : ∀ j u, (Lib.byteCells m)[j]? = some u → w.cell? (a.add j) = some u := by
    intro j u hj
    simp only [Lib.byteCells, List.getElem?_map, Option.map_eq_some_iff] at hj
    obtain ⟨x, hx, rfl⟩ := hj
    exact hnews j x hx
  rcases hown with ⟨rfl, rfl⟩ | ⟨g, cap, cur, fz, rfl, hbg, hg, hfz, hnc, hcm, hcs, htake⟩
  · obtain ⟨v', w', r1, r2, r3, _⟩ := run_append_own (P := P) w B t ty E i (.int .u8 0) 1 1 ht hi hz hsize hby rfl (by decide) (.slice none 0 0) 0 [] ⟨rfl, .inl ⟨rfl, rfl⟩⟩ a m.length c (Lib.byteCells m) (by rw [Lib.byteCells_length, Nat.mul_one]) hnews' (byteCells_one m) (by simpa using hm63) (by simp at hlen; omega) hbase
    refine ⟨v', w', r1, ?_, r3⟩
    rcases r2.2 with ⟨rfl, h0⟩ | ⟨g, cap, cur, hv, hb, hg, hnc, hcm, hcs, htk⟩
    · exact .inl ⟨rfl, List.eq_nil_of_length_eq_zero (by simpa using h0)⟩
    · refine .inr ⟨g, cap, cur, (0, 0), by simpa using hv, hb, hg, fun _ _ _ _ => by omega, by simpa using hnc, hcm, by simpa using hcs, ?_⟩
      simpa using htk
  · have hsmall : l.length + m.length ≤ 9223372036854775807 := by omega
    by_cases hroom : l.length + m.length ≤ cap
    · have hf := run_firstCells_some (P := P) w 1 m.length a m.length c (Lib.byteCells m) (by rw [Lib.byteCells_length, Nat.mul_one]) hnews'
      have hst := run_storeCells_free (P := P) g E fz (Lib.byteCells m) (l.length * 1) 0 cur w hg (fun k hk1 hk2 => hfz k (by omega) (by rw [Lib.byteCells_length] at hk2; omega)) (by rw [Lib.byteCells_length]; omega) (byteCells_one m)
      simp only [Nat.add_zero, Nat.mul_one] at hst hf
      have hr : (Builtin.append_ #[t, t] ty #[.slice (some ⟨g, 0, none⟩) l.length cap, .slice (some a) m.length c]).run P w = .ok (.slice (some ⟨g, 0, none⟩) (l.length + m.length) cap) (w.setRow g (cur.toList.take l.length ++ Lib.byteCells m ++ cur.toList.drop (l.length + (Lib.byteCells m).length)).toArray) := by
        simp [Builtin.append_, run_underlying ht, sizeOf, typeInfo, hi, hsize, Builtin.lenOf, hroom, hf, Addr.add_lit, hst]
      refine ⟨_, _, hr, .inr ⟨g, cap, _, fz, by rw [List.length_append], hbg, setRow_heap w g cur _ E _ hg, fun k hk1 hk2 => hfz k (by rw [List.length_append] at hk1; omega) hk2, by rw [List.length_append]; exact hroom, hcm, ?_, ?_⟩, ⟨rfl, rfl, rfl, by simp, fun k _ hk => setRow_other w g k _ (fun e => hk (by simp [Value.ownBlock, e]))⟩⟩
      · simp only [List.size_toArray, List.length_append, List.length_take, List.length_drop, Array.length_toList, Lib.byteCells_length]
        omega
      · rw [htake, Lib.byteCells_append]
        have : (l ++ m).length = (Lib.byteCells l ++ Lib.byteCells m).length := by simp [Lib.byteCells_length]
        rw [this]
        exact List.take_left
    · have holds : ∀ j u, (Lib.byteCells l)[j]? = some u → w.cell? ((⟨g, 0, none⟩ : Addr).add j) = some u := by
        intro j u hj
        simp only [Lib.byteCells, List.getElem?_map, Option.map_eq_some_iff] at hj
        obtain ⟨x, hx, rfl⟩ := hj
        have hadd : (⟨g, 0, none⟩ : Addr).add j = ⟨g, j, none⟩ := by unfold Addr.add; split <;> simp_all
        rw [hadd]
        exact RowB.cells (B := B) (E := E) (v := .slice (some ⟨g, 0, none⟩) l.length cap) (.inr ⟨g, cap, cur, fz, rfl, hbg, hg, hfz, hnc, hcm, hcs, htake⟩) rfl j x hx
      have hr := run_append_grow (P := P) w t ty E i (.int .u8 0) ht hi hz ⟨g, 0, none⟩ l.length cap (Lib.byteCells l) (by rw [Lib.byteCells_length, hsize, Nat.mul_one]) holds a m.length c (Lib.byteCells m) (by rw [Lib.byteCells_length, hsize, Nat.mul_one]) hnews' (by omega) (by omega) (growslice_fits (by omega) (by rw [hby]; omega))
      have hge := grownCap_ge w (l.length + m.length) cap E
      have hcm2 : grownCap w (l.length + m.length) cap E ≤ maxLen := grownCap_le_maxLen w (l.length + m.length) cap E hm63
      refine ⟨_, _, hr, .inr ⟨w.heap.size, _, _, (0, 0), by rw [List.length_append], hbase, heap_alloc_new w.drew _, fun _ _ _ _ => by omega, by rw [List.length_append]; exact hge, hcm2, ?_, ?_⟩, ⟨rfl, rfl, rfl, by simp, fun k hk _ => Lib.alloc_old w.drew _ k hk⟩⟩
      · simp only [Array.size_append, List.size_toArray, size_zeroCells, Lib.byteCells_length]
        have : (Value.int IntKind.u8 0).cells.size = 1 := rfl
        rw [this]
        omega
      · simp only [Array.toList_append, List.append_assoc]
        rw [← List.append_assoc, ← Lib.byteCells_append]
        have : (l ++ m).length = (Lib.byteCells (l ++ m)).length := by rw [Lib.byteCells_length]
        rw [this]
        exact List.take_left
theorem wpList_append_rowB {ops : Array Oper} {rest : List Oper} {o : Oper} {a : Act} {w : World} {Q : Exit → Act → World → Prop} (hgd : o.guard = none) (s x : Operand) (t : TypeId)
    (ho : o.op = .call { callee := .builtin .append, args := #[s, x], argTypes := #[t, t] })
    (B : Nat) (E : TypeId) (i : TypeInfo) (ht : P.underlying t = some (.slice E)) (hi : P.info? E = some i) (hz : i.zero = some (.int .u8 0)) (hsize : i.size = 1) (hby : i.bytes = 1)
    (v : Value) (l m : List UInt8) (hs : a.eval s = v) (hown : RowB B E v l w) (ad : Addr) (c : Nat) (hx : a.eval x = .slice (some ad) m.length c) (hnews : ∀ j x, m[j]? = some x → w.cell? (ad.add j) = some (.int .u8 (x.toNat : Int)))
    (hlen : l.length + m.length ≤ 140737488355328) (hbase : B ≤ w.heap.size)
    (h : ∀ v' w', RowB B E v' (l ++ m) w' → w.grownBy w' v.ownBlock → wpList P ops Q rest (a.put o.dst v') w') : wpList P ops Q (o :: rest) a w := by
  refine wpList_plain hgd fun K hK => ?_
  obtain ⟨v', w', hr, h2, h3⟩ := run_append_rowB (P := P) w B t o.type E i ht hi hz hsize hby v l m hown ad c hnews hlen hbase
  unfold Oper.wp execOp
  simp only [ho, resolve, invoke, builtin, Sem.run_bind, Sem.run_pure, Result.andThen_ok, List.map_toArray, List.map_cons, List.map_nil, hs, hx, hr]
  exact hK _ _ (h v' w' h2 h3)
theorem run_string_bytes (w : World) (src dst E : TypeId) (hs : P.underlying src = some (.slice E)) (he : P.underlying E = some (.int .u8)) (hd : P.underlying dst = some .string) (g off cap : Nat) (l : List UInt8)
    (hc : ∀ j x, l[j]? = some x → w.cell? ⟨g, off + j, none⟩ = some (.int .u8 (x.toNat : Int))) :
    (convert src dst (.slice (some ⟨g, off, none⟩) l.length cap)).run P w = .ok (.string ⟨l.toArray⟩) w := by
  rw [run_convert_bytes_arg (P := P) w src E hs he g off l.length cap (l.map fun x => (x.toNat : Int)) (by simp) (fun i hi => by
    rw [hc i l[i] (List.getElem?_eq_getElem hi)]
    simp [List.getD_eq_getElem?_getD, List.getElem?_map, List.getElem?_eq_getElem hi]) dst hd]
  congr 3
  unfold strOfNums
  rw [List.map_map]
  exact congrArg (fun z : List UInt8 => (⟨z.toArray⟩ : ByteArray)) ((List.map_congr_left (fun x _ => by simp)).trans (List.map_id l))
end
end Go.Proofs.YtpgfafpjfdbjmaaDoor
end
section
namespace Go.Proofs.YtpgfafpjfdbjmaaDoor
open Go.RowKit
set_option maxHeartbeats 2000000 in
set_option maxRecDepth 100000 in
theorem bWrite (B b : Nat) (l m : List UInt8) (ad : Addr) (cp : Nat) (w : World) (h : Bd B b l w) (hm : ∀ (j : Nat) (x : UInt8), m[j]? = some x → w.cell? (ad.add j) = some (.int .u8 (x.toNat : Int))) (had : ad.block ≠ b) (hm0 : m ≠ []) (hlen : l.length + m.length ≤ 140737488355328) (hB : B ≤ w.heap.size) :
    Calls Tryd.prog 74 #[.pointer (some ⟨b, 0, none⟩), .slice (some ad) m.length cp] w fun e w' => e = .returned (.tuple #[.int .i64 m.length, .nilIface]) ∧ Bd B b (l ++ m) w' ∧ Bf B b w w' := by
  obtain ⟨i0, hi, hz0, hz1, hz2⟩ := info8
  have HH := Lib.hid h
  have HL := Lib.hid hlen
  have HB := Lib.hid hB
  have HM := Lib.hid hm
  have H0 := Lib.hid hm0
  have HD := Lib.hid had
  clear h hlen hB hm hm0 had
  go_enter Tryd.func74, Tryd.ntmps74
  go_wp2_with (go_at_call 80; refine (bcc B b l _ HH.out).mono ?_)
  rintro e w1 ⟨rfl, ⟨v, hA⟩, hcf⟩
  obtain ⟨T, hT, hbk, hown, hne, h00⟩ := hA
  have HA : Hid (BdAt B b (.pointer (some ⟨b, 0, none⟩)) v l w1) := Lib.hid ⟨T, hT, hbk, hown, hne, h00⟩
  have HCF := Lib.hid hcf
  clear hcf h00
  have c0 : w1.cell? ⟨b, 0, none⟩ = some (.pointer (some ⟨b, 0, none⟩)) := by rw [Lib.cell_of_heap hbk]; rfl
  have c1 : w1.cell? ⟨b, 1, none⟩ = some v := by rw [Lib.cell_of_heap hbk]; rfl
  go_wp2_with (at_builtin; refine wpList_append_ownF _ rfl _ _ 59 rfl B 5 i0 (.int .u8 0) 1 1 (by kernel_rfl) hi hz0 hz1 hz2 rfl (by decide) _ _ _ rfl hown ad m.length cp (Lib.byteCells m) rfl (by rw [Lib.byteCells_length, Nat.mul_one]) ?c1 ?c2 ?c3 ?c4 ?c5 ?_)
  case c1 =>
    intro j u hj
    have hcell : ∃ x, m[j]? = some x ∧ u = .int .u8 (x.toNat : Int) := by
      simp only [Lib.byteCells, List.getElem?_map, Option.map_eq_some_iff] at hj
      obtain ⟨x, hx, rfl⟩ := hj
      exact ⟨x, hx, rfl⟩
    obtain ⟨x, hx, rfl⟩ := hcell
    have h1 := HM.out j x hx
    have hb : (ad.add j).block = ad.block := by unfold Addr.add; split <;> rfl
    exact (World.cell?_of_block (HCF.out.block _ (by rw [hb]; exact HD.out))).trans h1
  case c2 => intro u hu; simp only [Lib.byteCells, List.mem_map] at hu; obtain ⟨x, _, rfl⟩ := hu; rfl
  case c3 => have := HL.out; unfold maxLen; omega
  case c4 => have := HL.out; omega
  case c5 => have := HB.out; have := HCF.out.size; omega
  intro v' w2 hown' hgrow hv'
  have hlt : b < w1.heap.size := (Array.getElem?_eq_some_iff.1 hbk).1
  have hb2 : w2.heap[b]? = some (.cells #[.pointer (some ⟨b, 0, none⟩), v] T (0, 0)) := by
    rw [hgrow.block b (by omega) (fun e => hne e.symm)]
    exact hbk
  have d0 : w2.cell? ⟨b, 0, none⟩ = some (.pointer (some ⟨b, 0, none⟩)) := by rw [Lib.cell_of_heap hb2]; rfl
  have d1 : w2.cell? ⟨b, 1, none⟩ = some v := by rw [Lib.cell_of_heap hb2]; rfl
  have f1 : w2.frozen? ⟨b, 1, none⟩ = false := Lib.frozen_of_heap hb2 1
  have hm1 : m.length ≠ 0 := by have := H0.out; simpa using this
  have HP : Hid (BdAt B b (.pointer (some ⟨b, 0, none⟩)) v' (l ++ m) (w2.setCell ⟨b, 1, none⟩ v')) := Lib.hid (BdAt.put hT hb2 (by rw [List.length_append, Lib.byteCells_append]; exact hown') (by intro e; exact absurd (List.append_eq_nil_iff.1 e).2 H0.out))
  have HQ : Hid (Bf B b w (w2.setCell ⟨b, 1, none⟩ v')) := Lib.hid (Bf.write (l := l) HCF.out HB.out (Below.refl _ _) hown hgrow)
  obtain ⟨g, cap, rfl⟩ : ∃ g cap, v' = .slice (some ⟨g, 0, none⟩) (l.length + m.length) cap := by
    rcases hown'.2 with ⟨_, h0⟩ | ⟨g, cap, cur, fz, hv, _⟩
    · omega
    · exact ⟨g, cap, hv⟩
  clear hv' hgrow hown' hown hbk hb2 hm1
  go_wp2
  go_ret2
  exact ⟨rfl, ⟨_, _, .inr rfl, HP.out⟩, HQ.out⟩
end Go.Proofs.YtpgfafpjfdbjmaaDoor
end
section
namespace Go.Proofs.YtpgfafpjfdbjmaaDoor
open Go.RowKit Q Go.Proofs.YtpgfafpjfdbjmaaDoorW.PrintWords Go.Proofs.YtpgfafpjfdbjmaaDoorW.PrintLast Go.Proofs.YtpgfafpjfdbjmaaDoorW.PrintMore
theorem row_len {B : Nat} {E : TypeId} {v : Value} {l : List UInt8} {w : World} (h : RowB B E v l w) {L : Nat} (hL : l.length = L + 1) : ∃ g cap, v = .slice (some ⟨g, 0, none⟩) (L + 1) cap := by
  obtain ⟨g, cap, hv, _⟩ := h.ne (by intro h0; rw [h0] at hL; cases hL)
  exact ⟨g, cap, by rw [hv, hL]⟩
theorem RowB.past {B : Nat} {E : TypeId} {v : Value} {l : List UInt8} {w : World} (h : RowB B E v l w) {g : Nat} (hne : ∀ k, v.ownBlock = some k → k ≠ g) (c : Array Value) : RowB B E v l (w.setRow g c) :=
  h.keep (fun k hk => setRow_other w g k c (hne k hk))
theorem conv_run (ev : Operand → Value) (x : Operand) (g off cap : Nat) (l : List UInt8) (s : ByteArray) (W : World) (hs : (⟨l.toArray⟩ : ByteArray) = s) (hc : ∀ j x, l[j]? = some x → W.cell? ⟨g, off + j, none⟩ = some (.int .u8 (x.toNat : Int))) {n : Nat} (hn : l.length = n) (hx : ev x = .slice (some ⟨g, off, none⟩) n cap) {o : Oper} (ho : o.op = .convert 59 9 x) :
    (execOp ev o).run Tryd.prog W = .ok (.value (.string s)) W := by
  subst hs hn
  unfold execOp
  simp only [ho, hx, Sem.run_bind, Result.andThen_ok, run_string_bytes W 59 9 5 Tryd.underlying59 Tryd.underlying5 Tryd.underlying9 g off cap l hc, Sem.run_pure]
def be4 (x : Int) : List UInt8 := [UInt8.ofNat (x / 16777216 % 256).toNat, UInt8.ofNat (x / 65536 % 256).toNat, UInt8.ofNat (x / 256 % 256).toNat, UInt8.ofNat (x % 256).toNat]
def outk (l : List Int) : Nat → List UInt8
  | 0 => []
  | k + 1 => outk l k ++ be4 (l.getD k 0)
theorem outk_len (l : List Int) (k : Nat) : (outk l k).length = 4 * k := by
  induction k with
  | zero => rfl
  | succ k ih => rw [outk, List.length_append, ih]; simp [be4]; omega
theorem be_byte (x : Int) : ((UInt8.ofNat (x % 256).toNat).toNat : Int) = x % 256 := by
  rw [UInt8.toNat_ofNat', Nat.mod_eq_of_lt (by omega)]
  omega
set_option maxRecDepth 100000 in
theorem index_word (y : V8) (k : Nat) (hk : k < 8) (W : World) : (Instr.index 115 (.agg y.cells) (.int .i64 (k : Int))).run Tryd.prog W = .ok (.int .u32 (y.l.getD k 0)) W := by
  match k, hk with
  | 0, _ => rfl
  | 1, _ => rfl
  | 2, _ => rfl
  | 3, _ => rfl
  | 4, _ => rfl
  | 5, _ => rfl
  | 6, _ => rfl
  | 7, _ => rfl
def pz (m : Nat) : Nat := (120 - m % 64) % 64
def szb (n : Nat) : Nat → List UInt8
  | 0 => []
  | j + 1 => szb n j ++ [UInt8.ofNat (n * 8 / 2 ^ (8 * (7 - j)) % 256)]
theorem szb_len (n j : Nat) : (szb n j).length = j := by
  induction j with
  | zero => rfl
  | succ j ih => rw [szb, List.length_append, ih]; rfl
def fill0 (r : ByteArray) : List UInt8 := r.data.toList ++ [128]
def fill1 (r : ByteArray) : List UInt8 := fill0 r ++ List.replicate (pz (fill0 r).length) 0
def fill2 (r : ByteArray) (n : Nat) : List UInt8 := fill1 r ++ szb n 8
theorem fill2_64 (r : ByteArray) (n : Nat) : 64 * ((fill2 r n).length / 64) = (fill2 r n).length := by
  unfold fill2 fill1
  rw [List.length_append, List.length_append, szb_len, List.length_replicate]
  unfold pz
  omega
set_option maxRecDepth 100000 in
set_option maxHeartbeats 1000000 in
theorem dsum_calls (g : Nat) (x : V8) (r : ByteArray) (n : Nat) (w : World) (h : DSt w g x r n) (hr : r.size ≤ 64) (hn : n ≤ 140737488355328) :
    Calls Tryd.prog 50 #[.pointer (some ⟨g, 0, none⟩)] w fun e w' => e = .returned (.string ⟨(outk (fd x ⟨(fill2 r n).toArray⟩ ((fill2 r n).length / 64)).l 8).toArray⟩) ∧ Below w.heap.size w w' := by
  obtain ⟨i0, hi, hz0, hz1, hz2⟩ := info8
  have HD := Aside0.mk h
  have HG := Aside0.mk h.lt
  have c8 := h.c8
  clear h
  have hcv := fun (W : World) => Lib.run_convert_string_bytes (P := Tryd.prog) W 9 59 5 (r ++ ⟨#[128]⟩) Tryd.underlying9 Tryd.underlying59 Tryd.underlying5
  have hsz : (r ++ ⟨#[128]⟩ : ByteArray).size = r.size + 1 := by rw [ByteArray.size_append]; rfl
  have hR := RowB.bytes w 5 (r ++ ⟨#[128]⟩) (by rw [hsz]; unfold maxLen; omega)
  have hBel := RowB.bytesBelow w 5 (r ++ ⟨#[128]⟩)
  have e0 : (r ++ ⟨#[128]⟩ : ByteArray).data.toList = fill0 r := by
    show (ByteArray.append r ⟨#[128]⟩).data.toList = _
    simp [fill0, ByteArray.append_eq]
  rw [e0] at hR
  have hl0 : (fill0 r).length = r.size + 1 := by rw [← e0, Array.length_toList]; exact hsz
  have G1 := Aside0.mk hR
  have G2 := Aside0.mk hBel
  have G3 := Lib.hid hl0
  clear hR hBel hl0 e0
  go_enter Tryd.func50, Tryd.ntmps50
  go_wp2_with fail
  have G2 := G2.out
  have G1 := G1.out
  rw [hsz] at G1
  have HZ : pz (r.size + 1) < 64 := by unfold pz; omega
  generalize Lib.bytesWorld w 5 (r ++ ⟨#[128]⟩) = w1 at *
  generalize grownCap w (r.size + 1) 0 5 = cap1 at *
  have G1 := Aside0.mk G1
  have G2 := Aside0.mk G2
  clear hcv c8 hsz
  go_loopg [3] (pz (r.size + 1)) (fun m v wr => ∃ g1 cap j L : Nat, v = .slice (some ⟨g1, 0, none⟩) L cap ∧ L ≤ 200 ∧ Aside0 (j + m = pz (r.size + 1) ∧ L = r.size + 1 + j) ∧ Aside0 (RowB w.heap.size 5 (.slice (some ⟨g1, 0, none⟩) L cap) (fill0 r ++ List.replicate j 0) wr) ∧ Aside0 (Below w.heap.size w wr))
  case atStart => exact ⟨_, _, 0, _, rfl, by omega, ⟨by omega, by omega⟩, ⟨by rw [List.replicate_zero, List.append_nil]; exact G1.out⟩, G2⟩
  case round =>
    clear G1 G2
    obtain ⟨g1, cap, j, L, rfl, hL, HJ, G1, G2⟩ := hrel
    by_cases hm : gk = 0
    · have t1 : (L : Int) % 64 = 56 := by have := HJ.out; unfold pz at this; omega
      have t2 : ((L : Int) % 64 == 56) = true := by rw [t1]; rfl
      have t3 : ((L : Int) % 64 != 56) = false := by rw [t1]; rfl
      clear t1
      go_wp2_with fail
      have hj : j = pz (r.size + 1) ∧ L = r.size + 1 + pz (r.size + 1) := by have := HJ.out; omega
      obtain ⟨rfl, hLe⟩ := hj
      have G1 : Aside0 (RowB w.heap.size 5 (.slice (some ⟨g1, 0, none⟩) L cap) (fill1 r ++ szb n 0) wr) := ⟨by
        have := G1.out
        unfold fill1 szb
        rw [List.append_nil, G3.out]
        exact this⟩
      have hF1 : Hid ((fill1 r).length = L) := Lib.hid (by unfold fill1; rw [List.length_append, List.length_replicate, G3.out, hLe])
      clear HJ t2 t3 hLe hm
      go_loopg [3, 4] 8 (fun m v i wr => ∃ g1 cap j L' : Nat, ∃ q : Int, v = .slice (some ⟨g1, 0, none⟩) L' cap ∧ i = .int .i64 q ∧ L' ≤ 208 ∧ Aside0 (j + m = 8 ∧ L' = L + j ∧ q = (m : Int) - 1) ∧ Aside0 (RowB w.heap.size 5 (.slice (some ⟨g1, 0, none⟩) L' cap) (fill1 r ++ szb n j) wr) ∧ Aside0 (Below w.heap.size w wr))
      case atStart => exact ⟨_, _, 0, _, _, rfl, rfl, by omega, ⟨by omega, by omega, by omega⟩, G1, G2⟩
      case round =>
        clear G1 G2
        obtain ⟨g2, cap2, j, L', q, rfl, rfl, hL', HJ, G1, G2⟩ := hrel
        by_cases hm : gk = 0
        · obtain rfl : q = -1 := by have := HJ.out; omega
          have hz8 := zero8
          have hDw := HD.out.keep G2.out
          have HDw := Aside0.mk hDw
          clear hDw
          go_wp2_with (first | (refine gate_ (.load 115 (.tmp 43)) rfl ?_; refine wpList_load_mid rfl 115 (.tmp 43) rfl g 0 rfl x.cells.toList _ HDw.out.range Tryd.underlying115 rfl (by rw [size8]; rfl) ?_; simp only [Act.put, List.setIfInBounds_toArray, List.set_cons_zero, List.set_cons_succ, Array.toArray_toList]) | (refine gate_ (.store 115 (.tmp 5) (.tmp 44)) rfl ?_; refine wpList_plain rfl (fun K hK => ?_); refine wp_store_row 115 (.tmp 5) (.tmp 44) rfl wr.heap.size x.cells rfl rfl 115 (arr .u32 (zs 8)) (heap_alloc_new wr _) (by rw [size8]; rfl) rfl (arr_one .u32 x.l) (hK _ _ ?_); rw [setRow_new]; clear hK K; simp only [Act.put]))
          have hjL : j = 8 ∧ L' = L + 8 := by have := HJ.out; omega
          obtain ⟨rfl, hLe⟩ := hjL
          have HP : Aside0 (RowB w.heap.size 5 (.slice (some ⟨g2, 0, none⟩) L' cap2) (fill2 r n) (wr.alloc (.cells x.cells 115))) := ⟨G1.out.alloc _⟩
          have HS : Aside0 (Row (wr.alloc (.cells x.cells 115)) wr.heap.size 115 (fd x ⟨(fill2 r n).toArray⟩ 0).l) := ⟨Row.new wr 115 x.l⟩
          have HB : Aside0 (Below w.heap.size w (wr.alloc (.cells x.cells 115))) := ⟨G2.out.alloc G2.out.size _⟩
          have hgs : g2 < wr.heap.size := (G1.out.lt g2 rfl).2
          have hgB : w.heap.size ≤ wr.heap.size := G2.out.size
          have hlen : (fill2 r n).length = L' := by unfold fill2; rw [List.length_append, szb_len, hF1.out, hLe]
          have hL64 : 64 * (L' / 64) = L' := by
            have := fill2_64 r n
            rw [hlen] at this
            exact this
          have hcap : L' ≤ cap2 := by
            obtain ⟨_, _, hv, _, _, h1, _⟩ := G1.out.ne (by intro h0; have := congrArg List.length h0; unfold fill1 fill0 at this; simp at this)
            simp only [Value.slice.injEq] at hv
            omega
          have Hlen := Lib.hid hlen
          have HL64 := Lib.hid hL64
          clear G1 G2 HDw HJ hlen hL64 hm hLe
          generalize hWR : wr.alloc (.cells x.cells 115) = w1 at *
          clear hWR
          generalize wr.heap.size = gs at *
          generalize hPL : fill2 r n = PL at *
          have HPL := Lib.hid hPL
          clear hPL
          go_loopg [3] (L' / 64) (fun m v wr => ∃ (A : Option Addr) (k O M c : Nat), v = .slice A M c ∧ M ≤ 208 ∧ M ≤ c ∧ Aside0 (k + m = L' / 64 ∧ M = 64 * m ∧ O = 64 * k ∧ (m ≠ 0 → A = some ⟨g2, O, none⟩)) ∧ Aside0 (RowB w.heap.size 5 (.slice (some ⟨g2, 0, none⟩) L' cap2) PL wr) ∧ Aside0 (Row wr gs 115 (fd x ⟨PL.toArray⟩ k).l) ∧ Aside0 (Below w.heap.size w wr))
          case atStart => exact ⟨_, 0, 0, _, _, rfl, by omega, by omega, ⟨by omega, by have := HL64.out; omega, by omega, fun _ => rfl⟩, HP, HS, HB⟩
          case round =>
            clear HP HS HB
            obtain ⟨A, k, O, M, c, rfl, hM, hMc, HJ, G1, HS, G2⟩ := hrel
            by_cases hm : gk = 0
            · obtain rfl : M = 0 := by have := HJ.out; omega
              obtain rfl : k = L' / 64 := by have := HJ.out.1; omega
              clear HJ hm
              generalize hY : fd x ⟨PL.toArray⟩ (L' / 64) = y at *
              have HY := Lib.hid hY
              clear hY
              have HSa := HS.out.alloc (.cells #[.pointer none, .slice none 0 0] 101)
              go_wp2_with (refine gate_ (.load 115 (.tmp 5)) rfl ?_; refine wpList_load_row rfl 115 (.tmp 5) rfl gs rfl _ y.cells (0, 0) _ HSa Tryd.underlying115 rfl size8 ?_; simp only [Act.put, List.setIfInBounds_toArray, List.set_cons_zero, List.set_cons_succ])
              have HD0 : Aside0 (Bd (wr.heap.size + 1) wr.heap.size [] (wr.alloc (.cells #[.pointer none, .slice none 0 0] 101))) := ⟨Bd.new _ wr⟩
              have HF0 : Aside0 (Bf (wr.heap.size + 1) wr.heap.size (wr.alloc (.cells #[.pointer none, .slice none 0 0] 101)) (wr.alloc (.cells #[.pointer none, .slice none 0 0] 101))) := ⟨Bf.refl _ _ _⟩
              have HS0 : Aside0 ((wr.alloc (.cells #[.pointer none, .slice none 0 0] 101)).heap.size = wr.heap.size + 1) := ⟨by simp⟩
              have HB0 : Aside0 (Below w.heap.size w (wr.alloc (.cells #[.pointer none, .slice none 0 0] 101))) := ⟨G2.out.alloc G2.out.size _⟩
              have hBs := G2.out.size
              clear HSa HS G1 G2
              generalize wr.alloc (.cells #[.pointer none, .slice none 0 0] 101) = w2 at *
              generalize wr.heap.size = bb at *
              go_loopw [56] (fun i wr => ∃ k : Nat, k ≤ 8 ∧ i = .int .i64 k ∧ Aside0 (Bd (bb + 1) bb (outk y.l k) wr) ∧ Aside0 (Bf (bb + 1) bb w2 wr)) (fun i _ => 8 - (intOf i).toNat)
              case atStart => exact ⟨0, by omega, rfl, HD0, HF0⟩
              case round =>
                clear HD0 HF0
                obtain ⟨k, hk, rfl, HD0, HF0⟩ := hrel
                by_cases hlt : k < 8
                · have hix := index_word y k hlt
                  have hOk : Hid (outk y.l (k + 1) = outk y.l k ++ be4 (y.l.getD k 0)) := Lib.hid rfl
                  have hOl := outk_len y.l k
                  generalize y.l.getD k 0 = xx at *
                  have hbs : bb + 1 ≤ wr.heap.size := by have := HS0.out; have := HF0.out.size; omega
                  go_wp2_with (fail)
                  refine Calls.mono (bWrite (bb + 1) bb (outk y.l k) (be4 xx) _ _ _ (HD0.out.keep (below_alloc (Below.refl _ _) _)) ?_ ?_ ?_ ?_ ?_) ?_
                  · intro j z hz
                    match j, hz with
                    | 0, hz => simp only [be4, List.getElem?_cons_zero, Option.some.injEq] at hz; subst hz; rw [be_byte]; simp [Addr.add]
                    | 1, hz => simp only [be4, List.getElem?_cons_zero, List.getElem?_cons_succ, Option.some.injEq] at hz; subst hz; rw [be_byte]; simp [Addr.add]
                    | 2, hz => simp only [be4, List.getElem?_cons_zero, List.getElem?_cons_succ, Option.some.injEq] at hz; subst hz; rw [be_byte]; simp [Addr.add]
                    | 3, hz => simp only [be4, List.getElem?_cons_zero, List.getElem?_cons_succ, Option.some.injEq] at hz; subst hz; rw [be_byte]; simp [Addr.add]
                    | j + 4, hz => simp [be4] at hz
                  · show wr.heap.size ≠ bb
                    omega
                  · simp [be4]
                  · rw [hOl]; simp [be4]; omega
                  · simp; omega
                  rintro e w3 ⟨rfl, hD3, hF3⟩
                  rw [← hOk.out] at hD3
                  have hF4 := HF0.out.trans ((Bf.of_below (below_alloc (Below.refl _ _) _) hbs).trans hF3)
                  have HD0 := Aside0.mk hD3
                  have HF0 := Aside0.mk hF4
                  clear hD3 hF3 hF4 hix
                  go_wp2_with fail
                  go_roundw
                  case rel => exact ⟨k + 1, by omega, by go_num, HD0, HF0⟩
                  case measure => simp [intOf]; omega
                · obtain rfl : k = 8 := by omega
                  go_wp2_with (fail)
                  have hh := bString (bb + 1) bb (outk y.l 8) wr HD0.out
                  refine Calls.mono hh ?_
                  clear hh
                  rintro e w3 ⟨rfl, hF3⟩
                  go_wp2_with fail
                  go_ret
                  rw [HPL.out, Hlen.out, HY.out]
                  exact ⟨rfl, HB0.out.trans ((HF0.out.trans hF3).below (by omega) (by omega))⟩
            · obtain ⟨m, rfl⟩ : ∃ m, gk = m + 1 := ⟨gk - 1, by omega⟩
              obtain ⟨hk, hM', hO, hA⟩ := HJ.out
              obtain rfl := hA (by omega)
              have hM64 : (64 : Int) ≤ (M : Int) := by omega
              have hc64 : (64 : Int) ≤ (c : Int) := by omega
              have hcx : ∀ (j : Nat) (x : UInt8), ((PL.drop (64 * k)).take 64)[j]? = some x → PL[O + j]? = some x := by
                intro j x hx
                rw [List.getElem?_take] at hx
                split at hx
                · rw [List.getElem?_drop, ← hO] at hx; exact hx
                · cases hx
              have hchl : ((PL.drop (64 * k)).take 64).length = 64 := by
                rw [List.length_take, List.length_drop]
                have := Hlen.out
                have := HL64.out
                omega
              have hchunk : (⟨((PL.drop (64 * k)).take 64).toArray⟩ : ByteArray) = (⟨PL.toArray⟩ : ByteArray).extract (64 * k) (64 * k + 64) := by
                have := B_extract PL (64 * k) (64 * k + 64)
                rw [Nat.add_sub_cancel_left] at this
                exact this.symm
              have hb64 : ((⟨PL.toArray⟩ : ByteArray).extract (64 * k) (64 * k + 64)).size = 64 := by
                rw [← hchunk]
                show ((PL.drop (64 * k)).take 64).toArray.size = 64
                rw [List.size_toArray, hchl]
              have Hhk := Lib.hid hk
              have HhM := Lib.hid hM'
              have HhO := Lib.hid hO
              have Hcx := Lib.hid hcx
              have Hchl := Lib.hid hchl
              have Hchk := Lib.hid hchunk
              have Hb64 := Lib.hid hb64
              have hfd : Hid (fd x ⟨PL.toArray⟩ (k + 1) = bv (fd x ⟨PL.toArray⟩ k) ((⟨PL.toArray⟩ : ByteArray).extract (64 * k) (64 * k + 64))) := Lib.hid rfl
              clear hk hM' hO hA hcx hchl hchunk hb64 hm HJ
              generalize fd x ⟨PL.toArray⟩ k = y at *
              generalize (⟨PL.toArray⟩ : ByteArray).extract (64 * k) (64 * k + 64) = pb at *
              go_wp2_with (fail)
              refine start_ (n := 9) (S := fun w' => Row w' gs 115 y.l ∧ Aside0 (RowB w.heap.size 5 (.slice (some ⟨g2, 0, none⟩) L' cap2) PL w') ∧ Aside0 (Below w.heap.size w w')) (ds := [7]) #[false, false, false, false, false, false, false, false, false] (by kernel_rfl) rfl rfl ⟨(Row.drewN HS.out 1), ⟨G1.out⟩, ⟨Below.drew G2.out⟩⟩ (fun hHeld => ?_)
              refine pure_ (i := 1) (N := some 49) (v := ?_) (a' := ?_) #[false, true, false, false, false, false, false, false, false] rfl rfl (by kernel_rfl) (fun _ _ _ h => h) (Or.inl ⟨by rfl, ?_⟩) ?_ ?_
              rotate_left
              · intro w'
                go_simp
                with_reducible rfl
              rotate_left
              · simp only [Act.put, List.setIfInBounds_toArray, List.set_cons_zero, List.set_cons_succ]
                rfl
              refine pure_ (i := 2) (N := some 50) (v := ?_) (a' := ?_) #[false, true, true, false, false, false, false, false, false] rfl rfl (by kernel_rfl) (fun _ _ _ h => h) (Or.inl ⟨by rfl, ?_⟩) ?_ ?_
              rotate_left
              · intro w'
                go_simp
                with_reducible rfl
              rotate_left
              · simp only [Act.put, List.setIfInBounds_toArray, List.set_cons_zero, List.set_cons_succ]
                rfl
              refine pure_ (i := 5) (N := some 53) (v := ?_) (a' := ?_) #[false, true, true, false, false, true, false, false, false] rfl rfl (by kernel_rfl) (fun _ _ _ h => h) (Or.inl ⟨by rfl, ?_⟩) ?_ ?_
              rotate_left
              · intro w'
                go_simp
                with_reducible rfl
              rotate_left
              · simp only [Act.put, List.setIfInBounds_toArray, List.set_cons_zero, List.set_cons_succ]
                rfl
              refine pure_ (i := 6) (N := some 54) (v := ?_) (a' := ?_) #[false, true, true, false, false, true, true, false, false] rfl rfl (by kernel_rfl) (fun _ _ _ h => h) (Or.inl ⟨by rfl, ?_⟩) ?_ ?_
              rotate_left
              · intro w'
                go_simp
                with_reducible rfl
              rotate_left
              · simp only [Act.put, List.setIfInBounds_toArray, List.set_cons_zero, List.set_cons_succ]
                rfl
              refine take_ (i := 0) (N := some 48) (v := ?_) (a' := ?_) #[true, true, true, false, false, true, true, false, false] rfl rfl (by kernel_rfl) (fun _ _ _ h => h) (Or.inl ⟨by rfl, ?_⟩) hHeld ?_ ?_
              rotate_left
              · rintro w' ⟨s0, s1, s2⟩
                refine load_run _ 115 (.tmp 5) gs _ _ _ s0 Tryd.underlying115 size8 ?_ ?_ <;> rfl
              rotate_left
              · simp only [Act.put, List.setIfInBounds_toArray, List.set_cons_zero, List.set_cons_succ]
                rfl
              refine take_ (i := 3) (N := some 51) (v := ?_) (a' := ?_) #[true, true, true, true, false, true, true, false, false] rfl rfl (by kernel_rfl) (fun _ _ _ h => h) (Or.inl ⟨by rfl, ?_⟩) hHeld ?_ ?_
              rotate_left
              · rintro w' ⟨s0, s1, s2⟩
                refine conv_run _ (.tmp 50) g2 O c ((PL.drop (64 * k)).take 64) pb _ Hchk.out (fun j x hx => ?_) Hchl.out ?_ ?_
                · exact s1.out.cells (g := g2) rfl (O + j) x (Hcx.out j x hx)
                · rfl
                · rfl
              rotate_left
              · simp only [Act.put, List.setIfInBounds_toArray, List.set_cons_zero, List.set_cons_succ]
                rfl
              refine one_ (i := 4) (N := some 52) #[true, true, true, true, true, true, true, false, false] rfl rfl (by kernel_rfl) (by decide) (fun K hK => ?_)
              refine goes_ Tryd.func73 (by kernel_rfl) rfl #[.agg y.cells, .string pb] (by rfl) rfl rfl (by simp only [List.map_toArray, List.map_cons, List.map_nil]; rfl) ?_
              with_reducible refine (block_any y _ Hb64.out _).mono ?_
              rintro e w3 ⟨rfl, hb⟩
              refine ⟨_, rfl, ?_⟩
              have HS3 := hHeld.1.keep hb
              have G13 := hHeld.2.1.out.below hb
              have G23 := below2 hHeld.2.2.out hHeld.2.2.out.size hb
              refine hK.out _ _ ⟨HS3, ⟨G13⟩, ⟨G23⟩⟩ (fun hHeld => ?_)
              clear hK K
              refine norm_ (a' := ?_) ?_ ?_
              rotate_left
              · show Act.put _ (some 52) _ = _
                simp only [Act.put, List.setIfInBounds_toArray, List.set_cons_zero, List.set_cons_succ]
                rfl
              refine last_ (i := 7) (N := none) #[true, true, true, true, true, true, true, true, false] rfl rfl (by kernel_rfl) (by decide) (fun K hK => ?_)
              refine skip_ (by rfl) rfl (store_run _ 115 (.tmp 5) (.tmp 52) gs _ hHeld.1 (ys := (bv y pb).l) size8 rfl rfl rfl rfl) ?_
              have HS := Aside0.mk (hHeld.1.put (bv y pb).l)
              have G1 := Aside0.mk (hHeld.2.1.out.past (g := gs) (fun i hi' => (show g2 = i by simpa [Value.ownBlock] using hi') ▸ (by omega : g2 ≠ gs)) (arr .u32 (bv y pb).l))
              have G2 := Aside0.mk (below_setRow hHeld.2.2.out (hgB) (arr .u32 (bv y pb).l))
              clear hHeld HS3 G13 G23 hb
              generalize w3.setRow gs (arr .u32 (bv y pb).l) = w4 at *
              refine hK.out _ _ ?_
              clear hK K
              refine pure_ (i := 8) (N := some 3) (v := ?_) (a' := ?_) #[true, true, true, true, true, true, true, true, true] rfl rfl (by kernel_rfl) (fun _ _ _ h => h) (Or.inl ⟨by rfl, ?_⟩) ?_ ?_
              rotate_left
              · intro w'
                go_simp
                with_reducible rfl
              rotate_left
              · simp only [Act.put, List.setIfInBounds_toArray, List.set_cons_zero, List.set_cons_succ]
                rfl
              refine done_ (by kernel_rfl) ?_
              go_wp2_with fail
              all_goals
                go_roundg m
                case measure => omega
                case rel =>
                  refine ⟨_, k + 1, O + 64, _, _, rfl, by omega, by omega, ⟨by have := Hhk.out; omega, by have := HhM.out; omega, by have := HhO.out; omega, fun h0 => ?_⟩, G1, ⟨by rw [hfd.out]; exact HS.out⟩, G2⟩
                  first | rfl | (exfalso; have := HhM.out; omega)
        · obtain ⟨k, rfl⟩ : ∃ k : Nat, gk = k + 1 := ⟨gk - 1, by omega⟩
          obtain rfl : q = (k : Int) := by have := HJ.out; omega
          have hk7 : (k : Int) ≤ 7 := by have := HJ.out; omega
          have c9 := (HD.out.keep G2.out).c9
          have hw1 : IntKind.u64.wrap (n : Int) = (n : Int) := by rw [IntKind.wrap_u64]; omega
          have hw2 : IntKind.u64.wrap ((n : Int) * 8) = (n : Int) * 8 := by rw [IntKind.wrap_u64]; omega
          have hw3 : IntKind.i64.wrap (8 * (k : Int)) = 8 * (k : Int) := IntWalk.i64_in _ (by omega)
          have hj : j + k = 7 := by have := HJ.out; omega
          have hbv : ((UInt8.ofNat (n * 8 / 2 ^ (8 * k) % 256)).toNat : Int) = (n : Int) * 8 / 2 ^ (8 * k) % 256 := by
            rw [UInt8.toNat_ofNat', Nat.mod_eq_of_lt (Nat.mod_lt _ (by decide))]
            push_cast
            rfl
          have Hbv := Lib.hid hbv
          have HL1 : Hid ((fill1 r ++ szb n j).length = L') := Lib.hid (by rw [List.length_append, hF1.out, szb_len]; have := HJ.out; omega)
          have hS : Hid (fill1 r ++ szb n (j + 1) = (fill1 r ++ szb n j) ++ [UInt8.ofNat (n * 8 / 2 ^ (8 * k) % 256)]) := Lib.hid (by rw [szb, show 7 - j = k by omega, List.append_assoc])
          clear hbv
          go_wp2_with (at_builtin; refine wpList_append_rowB rfl _ _ 59 rfl w.heap.size 5 i0 (by kernel_rfl) hi hz0 hz1 hz2 _ _ [UInt8.ofNat (n * 8 / 2 ^ (8 * k) % 256)] rfl (G1.out.alloc _) ⟨wr.heap.size, 0, none⟩ 1 rfl ?c1 ?c2 ?c3 ?_)
          case c1 =>
            intro j u hj
            match j, hj with
            | 0, hj =>
              simp only [List.getElem?_cons_zero, Option.some.injEq] at hj
              subst hj
              rw [Hbv.out]
              simp [Addr.add]
          case c2 => have := HL1.out; simp only [List.length_cons, List.length_nil]; omega
          case c3 => have := G2.out.size; simp; omega
          intro v' w2 hown' hgrow
          rw [← List.append_assoc] at hown'
          obtain ⟨g3, cap3, rfl⟩ := row_len hown' (L := L') (by rw [List.length_append, HL1.out]; rfl)
          have G2 := Aside0.mk ((G2.out.alloc G2.out.size _).grown hgrow (by have := G2.out.size; simp; omega) (fun k hk => (G1.out.lt k hk).1))
          have G1 := Aside0.mk hown'
          clear hown' hgrow c9 hw1 hw2
          have hw4 : IntKind.i64.wrap ((k : Int) - 1) = (k : Int) - 1 := IntWalk.i64_in _ (by omega)
          go_wp2
          go_roundg k
          case measure => omega
          case rel => exact ⟨_, _, j + 1, _, _, rfl, rfl, by have := HJ.out; omega, ⟨by have := HJ.out; omega⟩, ⟨by rw [hS.out]; exact G1.out⟩, G2⟩
    · have t1 : ¬ (L : Int) % 64 = 56 := by have := HJ.out; unfold pz at this; omega
      have t2 : ((L : Int) % 64 == 56) = false := by simpa using t1
      have t3 : ((L : Int) % 64 != 56) = true := by simp [bne, t2]
      clear t1
      have hl1 : (fill0 r ++ List.replicate j 0).length = L := by rw [List.length_append, List.length_replicate, G3.out]; have := HJ.out; omega
      have HL1 := Lib.hid hl1
      clear hl1
      go_wp2_with (at_builtin; refine wpList_append_rowB rfl _ _ 59 rfl w.heap.size 5 i0 (by kernel_rfl) hi hz0 hz1 hz2 _ _ [0] rfl (G1.out.alloc _) ⟨wr.heap.size, 0, none⟩ 1 rfl ?c1 ?c2 ?c3 ?_)
      case c1 =>
        intro j u hj
        match j, hj with
        | 0, hj => simp at hj; subst hj; simp [Addr.add]
      case c2 => have := HL1.out; simp only [List.length_cons, List.length_nil]; omega
      case c3 => have := G2.out.size; simp; omega
      intro v' w2 hown' hgrow
      rw [← List.append_assoc] at hown'
      obtain ⟨g2, cap2, rfl⟩ := row_len hown' (L := L) (by rw [List.length_append, HL1.out]; rfl)
      have G2 := Aside0.mk ((G2.out.alloc G2.out.size _).grown hgrow (by have := G2.out.size; simp; omega) (fun k hk => (G1.out.lt k hk).1))
      have G1 := Aside0.mk hown'
      clear hown' hgrow
      go_wp2
      go_roundg (gk - 1)
      case measure => omega
      case rel => exact ⟨_, _, j + 1, L + 1, rfl, by have := HJ.out; omega, ⟨by have := HJ.out; omega⟩, ⟨by rw [List.replicate_succ', ← List.append_assoc]; exact G1.out⟩, G2⟩
end Go.Proofs.YtpgfafpjfdbjmaaDoor
end
section
namespace Go.Proofs.YtpgfafpjfdbjmaaDoor
open Go.RowKit Q Go.Proofs.YtpgfafpjfdbjmaaDoorW.PrintWords Go.Proofs.YtpgfafpjfdbjmaaDoorW.PrintLast Go.Proofs.YtpgfafpjfdbjmaaDoorW.PrintMore
set_option maxRecDepth 100000 in
set_option maxHeartbeats 1000000 in
theorem filled_calls (s : ByteArray) (hs : s.size ≤ 17592186044416) (w : World) :
    Calls Tryd.prog 57 #[.string s] w fun e w' => ∃ g cap : Nat, e = .returned (.slice (some ⟨g, 0, none⟩) (fill2 s s.size).length cap) ∧ RowB w.heap.size 5 (.slice (some ⟨g, 0, none⟩) (fill2 s s.size).length cap) (fill2 s s.size) w' ∧ Below w.heap.size w w' := by
  obtain ⟨i0, hi, hz0, hz1, hz2⟩ := info8
  have hcv := fun (W : World) => Lib.run_convert_string_bytes (P := Tryd.prog) W 9 59 5 s Tryd.underlying9 Tryd.underlying59 Tryd.underlying5
  have hR := RowB.bytes w 5 s (by unfold maxLen; omega)
  have hBel := RowB.bytesBelow w 5 s
  have hl0 : (fill0 s).length = s.size + 1 := by unfold fill0; rw [List.length_append, Array.length_toList]; rfl
  have G1 := Aside0.mk hR
  have G2 := Aside0.mk hBel
  have G3 := Lib.hid hl0
  clear hR hBel hl0
  go_enter Tryd.func57, Tryd.ntmps57
  go_upto_region 2 with (fail)
  generalize hw1 : Lib.bytesWorld w 5 s = w1 at *
  generalize grownCap w s.size 0 5 = cap1 at *
  clear hcv hw1
  go_wp2_with (at_builtin; refine wpList_append_rowB rfl _ _ 59 rfl w.heap.size 5 i0 (by kernel_rfl) hi hz0 hz1 hz2 _ _ [128] rfl (G1.out.alloc _) ⟨w1.heap.size, 0, none⟩ 1 rfl ?c1 ?c2 ?c3 ?_)
  case c1 =>
    intro j u hj
    match j, hj with
    | 0, hj => simp at hj; subst hj; simp [Addr.add]
  case c2 => rw [Array.length_toList]; simp only [List.length_cons, List.length_nil]; have : s.data.size = s.size := rfl; omega
  case c3 => have := G2.out.size; simp; omega
  intro v' w2 hown' hgrow
  obtain ⟨g2, cap2, rfl⟩ := row_len hown' (L := s.size) (by rw [List.length_append, Array.length_toList]; rfl)
  have G2 := Aside0.mk ((G2.out.alloc G2.out.size _).grown hgrow (by have := G2.out.size; simp; omega) (fun k hk => (G1.out.lt k hk).1))
  have G1 := Aside0.mk (show RowB w.heap.size 5 (.slice (some ⟨g2, 0, none⟩) (s.size + 1) cap2) (fill0 s) w2 from hown')
  clear hown' hgrow
  have HZ : pz (s.size + 1) < 64 := by unfold pz; omega
  go_wp2_with fail
  go_loopg [3] (pz (s.size + 1)) (fun m v wr => ∃ g1 cap j L : Nat, v = .slice (some ⟨g1, 0, none⟩) L cap ∧ L ≤ 17592186044500 ∧ Aside0 (j + m = pz (s.size + 1) ∧ L = s.size + 1 + j) ∧ Aside0 (RowB w.heap.size 5 (.slice (some ⟨g1, 0, none⟩) L cap) (fill0 s ++ List.replicate j 0) wr) ∧ Aside0 (Below w.heap.size w wr))
  case atStart => exact ⟨_, _, 0, _, rfl, by omega, ⟨by omega, by omega⟩, ⟨by rw [List.replicate_zero, List.append_nil]; exact G1.out⟩, G2⟩
  case round =>
    clear G1 G2
    obtain ⟨g1, cap, j, L, rfl, hL, HJ, G1, G2⟩ := hrel
    by_cases hm : gk = 0
    · have t1 : (L : Int) % 64 = 56 := by have := HJ.out; unfold pz at this; omega
      have t2 : ((L : Int) % 64 == 56) = true := by rw [t1]; rfl
      have t3 : ((L : Int) % 64 != 56) = false := by rw [t1]; rfl
      clear t1
      have hw8 : IntKind.i64.wrap (8 * (s.size : Int)) = 8 * (s.size : Int) := IntWalk.i64_in _ (by omega)
      go_wp2_with fail
      have hj : j = pz (s.size + 1) ∧ L = s.size + 1 + pz (s.size + 1) := by have := HJ.out; omega
      obtain ⟨rfl, hLe⟩ := hj
      have G1 : Aside0 (RowB w.heap.size 5 (.slice (some ⟨g1, 0, none⟩) L cap) (fill1 s ++ szb s.size 0) wr) := ⟨by
        have := G1.out
        unfold fill1 szb
        rw [List.append_nil, G3.out]
        exact this⟩
      have hF1 : Hid ((fill1 s).length = L) := Lib.hid (by unfold fill1; rw [List.length_append, List.length_replicate, G3.out, hLe])
      clear HJ t2 t3 hLe hm hw8
      go_loopg [3, 5] 8 (fun m v i wr => ∃ g1 cap j L' : Nat, ∃ q : Int, v = .slice (some ⟨g1, 0, none⟩) L' cap ∧ i = .int .i64 q ∧ L' ≤ 17592186044600 ∧ Aside0 (j + m = 8 ∧ L' = L + j ∧ q = (m : Int) - 1) ∧ Aside0 (RowB w.heap.size 5 (.slice (some ⟨g1, 0, none⟩) L' cap) (fill1 s ++ szb s.size j) wr) ∧ Aside0 (Below w.heap.size w wr))
      case atStart => exact ⟨_, _, 0, _, _, rfl, rfl, by omega, ⟨by omega, by omega, by omega⟩, G1, G2⟩
      case round =>
        clear G1 G2
        obtain ⟨g2, cap2, j, L', q, rfl, rfl, hL', HJ, G1, G2⟩ := hrel
        by_cases hm : gk = 0
        · obtain rfl : q = -1 := by have := HJ.out; omega
          go_wp2_with fail
          go_ret
          have hjL : j = 8 ∧ L' = L + 8 := by have := HJ.out; omega
          obtain ⟨rfl, hLe⟩ := hjL
          have hlen : (fill2 s s.size).length = L' := by unfold fill2; rw [List.length_append, szb_len, hF1.out, hLe]
          rw [hlen]
          exact ⟨g2, cap2, rfl, G1.out, G2.out⟩
        · obtain ⟨k, rfl⟩ : ∃ k : Nat, gk = k + 1 := ⟨gk - 1, by omega⟩
          obtain rfl : q = (k : Int) := by have := HJ.out; omega
          have hk7 : (k : Int) ≤ 7 := by have := HJ.out; omega
          have hw3 : IntKind.i64.wrap (8 * (k : Int)) = 8 * (k : Int) := IntWalk.i64_in _ (by omega)
          have hw5 : IntKind.u64.wrap (8 * (k : Int)) = 8 * (k : Int) := by rw [IntKind.wrap_u64]; omega
          have hj : j + k = 7 := by have := HJ.out; omega
          have hbv : ((UInt8.ofNat (s.size * 8 / 2 ^ (8 * k) % 256)).toNat : Int) = 8 * (s.size : Int) / 2 ^ (8 * k) % 256 := by
            rw [UInt8.toNat_ofNat', Nat.mod_eq_of_lt (Nat.mod_lt _ (by decide)), Nat.mul_comm s.size 8]
            push_cast
            rfl
          have Hbv := Lib.hid hbv
          have HL1 : Hid ((fill1 s ++ szb s.size j).length = L') := Lib.hid (by rw [List.length_append, hF1.out, szb_len]; have := HJ.out; omega)
          have hS : Hid (fill1 s ++ szb s.size (j + 1) = (fill1 s ++ szb s.size j) ++ [UInt8.ofNat (s.size * 8 / 2 ^ (8 * k) % 256)]) := Lib.hid (by rw [szb, show 7 - j = k by omega, List.append_assoc])
          clear hbv
          go_wp2_with (at_builtin; refine wpList_append_rowB rfl _ _ 59 rfl w.heap.size 5 i0 (by kernel_rfl) hi hz0 hz1 hz2 _ _ [UInt8.ofNat (s.size * 8 / 2 ^ (8 * k) % 256)] rfl (G1.out.alloc _) ⟨wr.heap.size, 0, none⟩ 1 rfl ?c1 ?c2 ?c3 ?_)
          case c1 =>
            intro j u hj
            match j, hj with
            | 0, hj =>
              simp only [List.getElem?_cons_zero, Option.some.injEq] at hj
              subst hj
              rw [Hbv.out]
              simp [Addr.add]
          case c2 => have := HL1.out; simp only [List.length_cons, List.length_nil]; omega
          case c3 => have := G2.out.size; simp; omega
          intro v' w2 hown' hgrow
          rw [← List.append_assoc] at hown'
          obtain ⟨g3, cap3, rfl⟩ := row_len hown' (L := L') (by rw [List.length_append, HL1.out]; rfl)
          have G2 := Aside0.mk ((G2.out.alloc G2.out.size _).grown hgrow (by have := G2.out.size; simp; omega) (fun k hk => (G1.out.lt k hk).1))
          have G1 := Aside0.mk hown'
          clear hown' hgrow hw3 hw5
          have hw4 : IntKind.i64.wrap ((k : Int) - 1) = (k : Int) - 1 := IntWalk.i64_in _ (by omega)
          go_wp2
          go_roundg k
          case measure => omega
          case rel => exact ⟨_, _, j + 1, _, _, rfl, rfl, by have := HJ.out; omega, ⟨by have := HJ.out; omega⟩, ⟨by rw [hS.out]; exact G1.out⟩, G2⟩
    · have t1 : ¬ (L : Int) % 64 = 56 := by have := HJ.out; unfold pz at this; omega
      have t2 : ((L : Int) % 64 == 56) = false := by simpa using t1
      have t3 : ((L : Int) % 64 != 56) = true := by simp [bne, t2]
      clear t1
      have hl1 : (fill0 s ++ List.replicate j 0).length = L := by rw [List.length_append, List.length_replicate, G3.out]; have := HJ.out; omega
      have HL1 := Lib.hid hl1
      clear hl1
      go_wp2_with (at_builtin; refine wpList_append_rowB rfl _ _ 59 rfl w.heap.size 5 i0 (by kernel_rfl) hi hz0 hz1 hz2 _ _ [0] rfl (G1.out.alloc _) ⟨wr.heap.size, 0, none⟩ 1 rfl ?c1 ?c2 ?c3 ?_)
      case c1 =>
        intro j u hj
        match j, hj with
        | 0, hj => simp at hj; subst hj; simp [Addr.add]
      case c2 => have := HL1.out; simp only [List.length_cons, List.length_nil]; omega
      case c3 => have := G2.out.size; simp; omega
      intro v' w2 hown' hgrow
      rw [← List.append_assoc] at hown'
      obtain ⟨g2, cap2, rfl⟩ := row_len hown' (L := L) (by rw [List.length_append, HL1.out]; rfl)
      have G2 := Aside0.mk ((G2.out.alloc G2.out.size _).grown hgrow (by have := G2.out.size; simp; omega) (fun k hk => (G1.out.lt k hk).1))
      have G1 := Aside0.mk hown'
      clear hown' hgrow
      go_wp2
      go_roundg (gk - 1)
      case measure => omega
      case rel => exact ⟨_, _, j + 1, L + 1, rfl, by have := HJ.out; omega, ⟨by have := HJ.out; omega⟩, ⟨by rw [List.replicate_succ', ← List.append_assoc]; exact G1.out⟩, G2⟩
end Go.Proofs.YtpgfafpjfdbjmaaDoor
end
section
namespace Go.Proofs.YtpgfafpjfdbjmaaDoor
open Go.RowKit Q Go.Proofs.YtpgfafpjfdbjmaaDoorW.PrintWords Go.Proofs.YtpgfafpjfdbjmaaDoorW.PrintLast Go.Proofs.YtpgfafpjfdbjmaaDoorW.PrintMore
theorem R_ints {k : IntKind} {e : Nat} {w : World} {base : Nat} {ok : Nat → Prop} {v : Value} {xs : List Int} (h : Kd.R (Kd.int k) e w base ok v xs) (h0 : xs ≠ []) :
    ∃ g cap, v = .slice (some ⟨g, 0, none⟩) xs.length cap ∧ xs.length ≤ cap ∧ base ≤ g ∧ g < w.heap.size ∧ ∀ j, j < xs.length → w.cell? ⟨g, j, none⟩ = some (.int k (xs.getD j 0)) := by
  obtain ⟨A, c, hv, hle, hrow⟩ := OwnRow.reads h.2
  subst hv
  have hpos : 0 < xs.length := List.length_pos_iff.2 h0
  obtain ⟨_, inner, hown, _⟩ := h
  rcases hown.2 with ⟨hv, _⟩ | ⟨g, cap, cur, hv, hb, hg, _⟩
  · simp only [Value.slice.injEq] at hv
    omega
  · simp only [Value.slice.injEq] at hv
    obtain ⟨rfl, _, rfl⟩ := hv
    refine ⟨g, c, rfl, hle, hb, (Array.getElem?_eq_some_iff.1 hg).1, fun j hj => ?_⟩
    obtain ⟨ad, had, hc⟩ := hrow.2.2 hpos
    simp only [Option.some.injEq] at had
    subst had
    obtain ⟨cs, _, hK, hcell⟩ := hc j xs[j] (List.getElem?_eq_getElem hj)
    have hcs : cs = [.int k xs[j]] := hK
    have := hcell 0 (.int k xs[j]) (by rw [hcs]; rfl)
    have hadd : (⟨g, 0, none⟩ : Addr).add (j * (Kd.int k).sz + 0) = ⟨g, j, none⟩ := by
      have : (Kd.int k).sz = 1 := rfl
      rw [this]
      unfold Addr.add; split <;> simp_all
    rw [hadd] at this
    rw [this, List.getD_eq_getElem?_getD, List.getElem?_eq_getElem hj]
    rfl
theorem K_f (i : Nat) (hi : i < 64) : sluicegateref03_K.f (i : Int) = some (KL.getD i 0) := by
  unfold sluicegateref03_K.f
  show (if 0 ≤ (i : Int) then (if (i : Int) < (KL.length : Int) then some (rd KL (i : Int)) else none) else none) = _
  rw [KL_len, if_pos (by omega), if_pos (by omega)]
  unfold rd
  rw [show ((i : Int)).toNat = i by omega]
theorem K_q (i : Nat) (hi : i < 64) (w : World) : Calls Tryd.prog 79 #[.int .i64 (i : Int)] w fun e w'' => e = .returned (.int .u32 (KL.getD i 0)) ∧ Below w.heap.size w w'' :=
  sluicegateref03_K.calls (i : Int) _ w (K_f i hi)
theorem rot_q (x n : Int) (h0 : 0 ≤ n) (h1 : n ≤ 32) (w : World) : Calls Tryd.prog 78 #[.int .u32 x, .int .u64 n] w fun e w'' => e = .returned (.int .u32 (rr x n)) ∧ Below w.heap.size w w'' := by
  refine (sluicegateref03_rot.calls x n _ w (rot_f x n h0 h1)).mono ?_
  rintro e w' ⟨rfl, hd⟩
  exact ⟨rfl, hd.below⟩
structure W8 (w : World) (g : Nat) (x : V8) : Prop where
  lt : g < w.heap.size
  c0 : w.cell? ⟨g, 0, none⟩ = some (.int .u32 x.a)
  c1 : w.cell? ⟨g, 1, none⟩ = some (.int .u32 x.b)
  c2 : w.cell? ⟨g, 2, none⟩ = some (.int .u32 x.c)
  c3 : w.cell? ⟨g, 3, none⟩ = some (.int .u32 x.d)
  c4 : w.cell? ⟨g, 4, none⟩ = some (.int .u32 x.e)
  c5 : w.cell? ⟨g, 5, none⟩ = some (.int .u32 x.f)
  c6 : w.cell? ⟨g, 6, none⟩ = some (.int .u32 x.g)
  c7 : w.cell? ⟨g, 7, none⟩ = some (.int .u32 x.h)
theorem W8.keep {w w' : World} {g : Nat} {x : V8} (h : W8 w g x) (hb : Below w.heap.size w w') : W8 w' g x :=
  ⟨Nat.lt_of_lt_of_le h.lt hb.size, (hb.cell h.lt).trans h.c0, (hb.cell h.lt).trans h.c1, (hb.cell h.lt).trans h.c2, (hb.cell h.lt).trans h.c3, (hb.cell h.lt).trans h.c4, (hb.cell h.lt).trans h.c5, (hb.cell h.lt).trans h.c6, (hb.cell h.lt).trans h.c7⟩
theorem W8.at {w : World} {g : Nat} {x : V8} (h : W8 w g x) (j : Nat) (v : Value) (hj : (x.cells)[j]? = some v) : w.cell? ⟨g, j, none⟩ = some v := by
  match j, hj with
  | 0, hj => exact h.c0.trans hj
  | 1, hj => exact h.c1.trans hj
  | 2, hj => exact h.c2.trans hj
  | 3, hj => exact h.c3.trans hj
  | 4, hj => exact h.c4.trans hj
  | 5, hj => exact h.c5.trans hj
  | 6, hj => exact h.c6.trans hj
  | 7, hj => exact h.c7.trans hj
  | j + 8, hj => simp [V8.cells] at hj
structure RowI (w : World) (g : Nat) (l : List Int) : Prop where
  lt : g < w.heap.size
  at' : ∀ j, j < l.length → w.cell? ⟨g, j, none⟩ = some (.int .u32 (l.getD j 0))
theorem RowI.keep {w w' : World} {g : Nat} {l : List Int} (h : RowI w g l) (hb : Below w.heap.size w w') : RowI w' g l :=
  ⟨Nat.lt_of_lt_of_le h.lt hb.size, fun j hj => (hb.cell h.lt).trans (h.at' j hj)⟩
theorem C_bytes {w : World} {g off : Nat} {l : List UInt8} (hl : l.length ≤ 9223372036854775807) (hc : ∀ j x, l[j]? = some x → w.cell? ⟨g, off + j, none⟩ = some (.int .u8 (x.toNat : Int))) : Kd.C (Kd.int .u8) w (some ⟨g, off, none⟩) (numsB l).length (numsB l) := by
  refine ⟨rfl, by unfold numsB; rw [List.length_map]; exact hl, fun _ => ⟨_, rfl, fun j p hp => ⟨[.int .u8 p], rfl, rfl, fun i u hu => ?_⟩⟩⟩
  match i, hu with
  | 0, hu =>
    simp only [List.getElem?_cons_zero, Option.some.injEq] at hu
    subst hu
    have hadd : (⟨g, off, none⟩ : Addr).add (j * (Kd.int .u8).sz + 0) = ⟨g, off + j, none⟩ := by
      have : (Kd.int .u8).sz = 1 := rfl
      rw [this]
      unfold Addr.add; split <;> simp_all
    rw [hadd]
    unfold numsB at hp
    rw [List.getElem?_map, Option.map_eq_some_iff] at hp
    obtain ⟨x, hx, rfl⟩ := hp
    exact hc j x hx
  | i + 1, hu => simp at hu
theorem info34 : ∃ i, Tryd.prog.info? 91 = some i ∧ i.zero = some (.int .u32 0) ∧ i.size = 1 ∧ i.bytes = 4 := info_parts (by kernel_rfl)
theorem W8.get {w : World} {g : Nat} {x : V8} (h : W8 w g x) (j : Nat) (hj : j < 8) : w.cell? ⟨g, j, none⟩ = some (.int .u32 (x.l.getD j 0)) := by
  match j, hj with
  | 0, _ => exact h.c0
  | 1, _ => exact h.c1
  | 2, _ => exact h.c2
  | 3, _ => exact h.c3
  | 4, _ => exact h.c4
  | 5, _ => exact h.c5
  | 6, _ => exact h.c6
  | 7, _ => exact h.c7
theorem W8.of {w : World} {g : Nat} {T : TypeId} (x : V8) (h : Row w g T x.l) : W8 w g x :=
  ⟨h.lt, h.cell 0 (by simp [V8.l]), h.cell 1 (by simp [V8.l]), h.cell 2 (by simp [V8.l]), h.cell 3 (by simp [V8.l]), h.cell 4 (by simp [V8.l]), h.cell 5 (by simp [V8.l]), h.cell 6 (by simp [V8.l]), h.cell 7 (by simp [V8.l])⟩
theorem W8.other {w : World} {g g' : Nat} {x : V8} (h : W8 w g x) (hne : g ≠ g') (i : Nat) (v : Value) : W8 (w.setCell ⟨g', i, none⟩ v) g x := by
  have hb : (w.setCell ⟨g', i, none⟩ v).heap[g]? = w.heap[g]? := Below.heap_setCell _ _ _ _ (fun e => hne e)
  have hc : ∀ k, (w.setCell ⟨g', i, none⟩ v).cell? ⟨g, k, none⟩ = w.cell? ⟨g, k, none⟩ := fun k => World.cell?_of_block hb
  exact ⟨by simp [World.setCell]; exact h.lt, (hc _).trans h.c0, (hc _).trans h.c1, (hc _).trans h.c2, (hc _).trans h.c3, (hc _).trans h.c4, (hc _).trans h.c5, (hc _).trans h.c6, (hc _).trans h.c7⟩
theorem bits_bv (op : BitVec 32 → BitVec 32 → BitVec 32) (a b : Int) : (IntKind.u32.wrap ((op (BitVec.ofInt 32 a) (BitVec.ofInt 32 b)).toNat : Int)) = ((op (BitVec.ofInt 32 a) (BitVec.ofInt 32 b)).toNat : Int) := by
  rw [IntKind.wrap_u32]
  have := (op (BitVec.ofInt 32 a) (BitVec.ofInt 32 b)).isLt
  omega
theorem ofInt_toNat (x : BitVec 32) : BitVec.ofInt 32 (x.toNat : Int) = x := by
  rw [BitVec.ofInt_natCast, BitVec.ofNat_toNat, BitVec.setWidth_eq]
theorem and_bv (a b : Int) : Go.bits .and .u32 a b = ((BitVec.ofInt 32 a &&& BitVec.ofInt 32 b).toNat : Int) := bits_bv (· &&& ·) a b
theorem or_bv (a b : Int) : Go.bits .or .u32 a b = ((BitVec.ofInt 32 a ||| BitVec.ofInt 32 b).toNat : Int) := bits_bv (· ||| ·) a b
theorem xor_bv (a b : Int) : Go.bits .xor .u32 a b = ((BitVec.ofInt 32 a ^^^ BitVec.ofInt 32 b).toNat : Int) := bits_bv (· ^^^ ·) a b
theorem ch_eq (e f g : Int) : Go.bits .xor .u32 (Go.bits .and .u32 e f) (Go.bits .and .u32 (Go.bits .xor .u32 4294967295 e) g) = Go.bits .xor .u32 g (Go.bits .and .u32 e (Go.bits .xor .u32 f g)) := by
  simp only [and_bv, xor_bv, ofInt_toNat]
  congr 2
  generalize BitVec.ofInt 32 e = e
  generalize BitVec.ofInt 32 f = f
  generalize BitVec.ofInt 32 g = g
  have h1 : BitVec.ofInt 32 4294967295 = BitVec.allOnes 32 := by decide
  rw [h1]
  apply BitVec.eq_of_getLsbD_eq
  intro i hi
  simp only [BitVec.getLsbD_xor, BitVec.getLsbD_and, BitVec.getLsbD_allOnes, hi, decide_true]
  cases e.getLsbD i <;> cases f.getLsbD i <;> cases g.getLsbD i <;> rfl
theorem maj_eq (a b c : Int) : Go.bits .xor .u32 (Go.bits .xor .u32 (Go.bits .and .u32 a b) (Go.bits .and .u32 a c)) (Go.bits .and .u32 b c) = Go.bits .or .u32 (Go.bits .and .u32 a b) (Go.bits .and .u32 c (Go.bits .or .u32 a b)) := by
  simp only [and_bv, xor_bv, or_bv, ofInt_toNat]
  congr 2
  generalize BitVec.ofInt 32 a = a
  generalize BitVec.ofInt 32 b = b
  generalize BitVec.ofInt 32 c = c
  apply BitVec.eq_of_getLsbD_eq
  intro i hi
  simp only [BitVec.getLsbD_xor, BitVec.getLsbD_and, BitVec.getLsbD_or]
  cases a.getLsbD i <;> cases b.getLsbD i <;> cases c.getLsbD i <;> rfl
theorem tt_ref (e f g h k w : Int) : ((h + Go.bits .xor .u32 (Go.bits .xor .u32 (rr e 6) (rr e 11)) (rr e 25) + Go.bits .xor .u32 (Go.bits .and .u32 e f) (Go.bits .and .u32 (Go.bits .xor .u32 4294967295 e) g) + k) % 4294967296 + w) % 4294967296 = tt e f g h k w := by
  rw [ch_eq]
  rfl
theorem uu_ref (a b c : Int) : (Go.bits .xor .u32 (Go.bits .xor .u32 (rr a 2) (rr a 13)) (rr a 22) + Go.bits .xor .u32 (Go.bits .xor .u32 (Go.bits .and .u32 a b) (Go.bits .and .u32 a c)) (Go.bits .and .u32 b c)) % 4294967296 = uu a b c := by
  rw [maj_eq]
  rfl
theorem ad_comm (x y : V8) : ad x.l y.l 8 = ad y.l x.l 8 := by
  have h : ∀ a b : Int, (a + b) % 4294967296 = (b + a) % 4294967296 := fun a b => by rw [Int.add_comm]
  show [(x.a + y.a) % 4294967296, (x.b + y.b) % 4294967296, (x.c + y.c) % 4294967296, (x.d + y.d) % 4294967296, (x.e + y.e) % 4294967296, (x.f + y.f) % 4294967296, (x.g + y.g) % 4294967296, (x.h + y.h) % 4294967296] = [(y.a + x.a) % 4294967296, (y.b + x.b) % 4294967296, (y.c + x.c) % 4294967296, (y.d + x.d) % 4294967296, (y.e + x.e) % 4294967296, (y.f + x.f) % 4294967296, (y.g + x.g) % 4294967296, (y.h + x.h) % 4294967296]
  rw [h x.a, h x.b, h x.c, h x.d, h x.e, h x.f, h x.g, h x.h]
set_option maxRecDepth 100000 in
set_option maxHeartbeats 1000000 in
theorem refblock_walk (ga gb ob cb : Nat) (x R : V8) (l : List UInt8) (hl : l.length = 64) (WL : List Int) (hwl : WL.length = 64) (kw : Nat) (hkw : sluicegateref03_words.f kw (numsB l) = some WL) (hres : ∀ i, i = 64 → v8 (ad x.l (cv x KL WL i).l 8) = R) (hcb : 64 ≤ cb) (w : World) (hst : W8 w ga x) (hga : ga < w.heap.size) (hb : ∀ j z, l[j]? = some z → w.cell? ⟨gb, ob + j, none⟩ = some (.int .u8 (z.toNat : Int))) :
    Calls Tryd.prog 58 #[.slice (some ⟨ga, 0, none⟩) 8 8, .slice (some ⟨gb, ob, none⟩) 64 cb] w fun e w' => ∃ g, e = .returned (.slice (some ⟨g, 0, none⟩) 8 8) ∧ W8 w' g R ∧ w.heap.size ≤ g ∧ Below w.heap.size w w' := by
  obtain ⟨i0, hi, hz0, hz1, hz2⟩ := info34
  have hnl : (numsB l).length = 64 := by unfold numsB; rw [List.length_map, hl]
  have HH := Lib.hid (sluicegateref03_words.calls kw _ cb _ _ w (C_bytes (by omega) hb) (by rw [hnl]; exact hcb) hkw)
  rw [hnl] at HH
  have HRES := Lib.hid hres
  have HST := Aside0.mk hst
  have HGA := Aside0.mk hga
  clear hst hnl hres hkw hb hl hcb hga
  go_enter Tryd.func58, Tryd.ntmps58
  go_wp2_with fail
  refine Calls.mono HH.out ?_
  clear HH
  rintro e w1 ⟨v0, rfl, hR, hB⟩
  obtain ⟨gw, cw, rfl, hcw, hgw, hgw2, hcells⟩ := R_ints hR (by intro h; rw [h] at hwl; cases hwl)
  rw [hwl] at hcw
  have HB := Aside0.mk hB
  have HR := Aside0.mk (⟨hgw2, hcells⟩ : RowI w1 gw WL)
  have HST := Aside0.mk (HST.out.keep hB)
  clear hR hB hcells
  rw [hwl]
  go_wp2_with (at_builtin; refine wpList_append_own _ rfl _ _ 92 rfl w.heap.size 91 i0 (.int .u32 0) 1 4 (by kernel_rfl) hi hz0 hz1 hz2 rfl (by decide) (.slice none 0 0) 0 [] rfl ⟨rfl, .inl ⟨rfl, rfl⟩⟩ ⟨ga, 0, none⟩ 8 8 x.cells.toList rfl rfl ?c1 ?c2 ?c3 ?c4 ?c5 ?_)
  case c1 =>
    intro j u hj
    have hadd : (⟨ga, 0, none⟩ : Addr).add j = ⟨ga, j, none⟩ := by unfold Addr.add; split <;> simp_all
    rw [hadd]
    exact HST.out.at j u (by simpa using hj)
  case c2 => intro u hu; simp [V8.cells] at hu; rcases hu with rfl | rfl | rfl | rfl | rfl | rfl | rfl | rfl <;> rfl
  case c3 => decide
  case c4 => decide
  case c5 => exact HB.out.size
  intro v' w2 hown hgrow _
  obtain ⟨g2, c2, rfl, hg2, hW8⟩ : ∃ g c, v' = .slice (some ⟨g, 0, none⟩) 8 c ∧ w.heap.size ≤ g ∧ W8 w2 g x := by
    rcases hown.2 with ⟨_, h0⟩ | ⟨g, cap, cur, hv, hb, hg, _⟩
    · cases h0
    · subst hv
      have hat : ∀ (j : Nat) (v : Value), x.cells.toList[j]? = some v → w2.cell? ⟨g, j, none⟩ = some v := fun j v hj => by
        have := hown.cells (g := g) rfl j v (by simpa using hj)
        have hadd : (⟨g, 0, none⟩ : Addr).add j = ⟨g, j, none⟩ := by unfold Addr.add; split <;> simp_all
        rwa [hadd] at this
      exact ⟨g, cap, rfl, hb, ⟨(Array.getElem?_eq_some_iff.1 hg).1, hat 0 _ rfl, hat 1 _ rfl, hat 2 _ rfl, hat 3 _ rfl, hat 4 _ rfl, hat 5 _ rfl, hat 6 _ rfl, hat 7 _ rfl⟩⟩
  have hgb : Below w1.heap.size w1 w2 := (Below.refl _ _).grown hgrow (Nat.le_refl _) (by intro k hk; cases hk)
  have HST := Aside0.mk (HST.out.keep hgb)
  have HR := Aside0.mk (HR.out.keep hgb)
  have HB := Aside0.mk (HB.out.trans (hgb.mono HB.out.size))
  have HV := Aside0.mk (show W8 w2 g2 (cv x KL WL 0) ∧ w.heap.size ≤ g2 from ⟨hW8, hg2⟩)
  clear hown hgrow hW8 hgb hg2
  go_wp2_with fail
  go_loopw [6, 7] (fun v n wr => ∃ i g c : Nat, i ≤ 64 ∧ n = .int .i64 i ∧ v = .slice (some ⟨g, 0, none⟩) 8 c ∧ Aside0 (W8 wr g (cv x KL WL i) ∧ w.heap.size ≤ g ∧ (i = 0 ∨ c = 8 ∧ Row wr g 91 (cv x KL WL i).l)) ∧ Aside0 (RowI wr gw WL) ∧ Aside0 (W8 wr ga x) ∧ Aside0 (Below w.heap.size w wr)) (fun _ n _ => 64 - (intOf n).toNat)
  case atStart => exact ⟨0, _, _, by omega, rfl, rfl, ⟨HV.out.1, HV.out.2, .inl rfl⟩, HR, HST, HB⟩
  case round =>
    clear HV HR HST HB
    obtain ⟨i, gv, c, hi64, rfl, rfl, HV, HR, HST, HB⟩ := hrel
    by_cases hlt : i < 64
    · have hS : Hid (stp (cv x KL WL i) (KL.getD i 0) (WL.getD i 0) = cv x KL WL (i + 1)) := Lib.hid rfl
      have hV := HV.out.1
      have hcw := HR.out.at' i (by omega)
      have hgwl := HR.out.lt
      have HKq := fun (W : World) => K_q i hlt W
      generalize KL.getD i 0 = kk at *
      generalize WL.getD i 0 = ww at *
      generalize cv x KL WL i = y at *
      obtain ⟨a, b', c', d, e, f, g, h⟩ := y
      have hgv := hV.lt
      have c0 : wr.cell? ⟨gv, 0, none⟩ = some (.int .u32 a) := hV.c0
      have c1 : wr.cell? ⟨gv, 1, none⟩ = some (.int .u32 b') := hV.c1
      have c2 : wr.cell? ⟨gv, 2, none⟩ = some (.int .u32 c') := hV.c2
      have c3 : wr.cell? ⟨gv, 3, none⟩ = some (.int .u32 d) := hV.c3
      have c4 : wr.cell? ⟨gv, 4, none⟩ = some (.int .u32 e) := hV.c4
      have c5 : wr.cell? ⟨gv, 5, none⟩ = some (.int .u32 f) := hV.c5
      have c6 : wr.cell? ⟨gv, 6, none⟩ = some (.int .u32 g) := hV.c6
      have c7 : wr.cell? ⟨gv, 7, none⟩ = some (.int .u32 h) := hV.c7
      clear hV
      go_wp2_with fail
      refine region_below_tail 43 (by kernel_rfl) (by kernel_rfl) ?_
      simp only [List.take_succ_cons, List.take_zero, List.drop_succ_cons, List.drop_zero]
      repeat (first | go_big_quiet_step (fail) | (refine BigFrame.wpQuiet_want (by rfl) (fun K hK => ?_); go_big_quiet_op; refine ⟨_, fun _ _ => rfl, hK _ ?_⟩; clear hK K) | (refine q_ld 91 _ _ _ _ rfl rfl rfl rfl (ld_u32 _ _) (by assumption) (by assumption) ?_; simp only [Act.put, List.setIfInBounds_toArray, List.set_cons_zero, List.set_cons_succ]) | (refine q_go (f := 78) Tryd.func78 (by kernel_rfl) rfl #[.int .u32 _, .int .u64 _] _ _ rfl rfl rfl (by simp only [List.map_toArray, List.map_cons, List.map_nil]; rfl) (fun w' _ => rot_q _ _ (by decide) (by decide) w') ?_; simp only [Act.put, List.setIfInBounds_toArray, List.set_cons_zero, List.set_cons_succ]) | (refine q_go (f := 79) Tryd.func79 (by kernel_rfl) rfl #[.int .i64 _] _ _ rfl rfl rfl (by simp only [List.map_toArray, List.map_cons, List.map_nil]; rfl) (fun w' _ => HKq w') ?_; simp only [Act.put, List.setIfInBounds_toArray, List.set_cons_zero, List.set_cons_succ]))
      refine wpQuiet_nil ?_
      intro wn hw'
      clear c0 c1 c2 c3 c4 c5 c6 c7 hcw hgwl hgv HKq
      have HV := Aside0.mk (show W8 wn gv ⟨a, b', c', d, e, f, g, h⟩ ∧ w.heap.size ≤ gv from ⟨HV.out.1.keep hw', HV.out.2.1⟩)
      have HR := Aside0.mk (HR.out.keep hw')
      have HST := Aside0.mk (HST.out.keep hw')
      have HB := Aside0.mk (below2 HB.out HB.out.size hw')
      have hgv := HV.out.1.lt
      have c0 : wn.cell? ⟨gv, 0, none⟩ = some (.int .u32 a) := HV.out.1.c0
      have c1 : wn.cell? ⟨gv, 1, none⟩ = some (.int .u32 b') := HV.out.1.c1
      have c2 : wn.cell? ⟨gv, 2, none⟩ = some (.int .u32 c') := HV.out.1.c2
      have c3 : wn.cell? ⟨gv, 3, none⟩ = some (.int .u32 d) := HV.out.1.c3
      have c4 : wn.cell? ⟨gv, 4, none⟩ = some (.int .u32 e) := HV.out.1.c4
      have c5 : wn.cell? ⟨gv, 5, none⟩ = some (.int .u32 f) := HV.out.1.c5
      have c6 : wn.cell? ⟨gv, 6, none⟩ = some (.int .u32 g) := HV.out.1.c6
      have c7 : wn.cell? ⟨gv, 7, none⟩ = some (.int .u32 h) := HV.out.1.c7
      clear hw'
      have hmx : (if IntKind.u32.signed = true then (-1 : Int) else IntKind.u32.max) = 4294967295 := rfl
      rw [hmx]
      clear hmx
      go_wp2_with fail
      rw [tt_ref]
      have HT : Hid (stp ⟨a, b', c', d, e, f, g, h⟩ kk ww = ⟨(tt e f g h kk ww + uu a b' c') % 4294967296, a, b', c', (d + tt e f g h kk ww) % 4294967296, e, f, g⟩) := Lib.hid rfl
      generalize tt e f g h kk ww = t at *
      refine region_below_tail 38 (by kernel_rfl) (by kernel_rfl) ?_
      simp only [List.take_succ_cons, List.take_zero, List.drop_succ_cons, List.drop_zero]
      repeat (first | go_big_quiet_step (fail) | (refine BigFrame.wpQuiet_want (by rfl) (fun K hK => ?_); go_big_quiet_op; refine ⟨_, fun _ _ => rfl, hK _ ?_⟩; clear hK K) | (refine q_ld 91 _ _ _ _ rfl rfl rfl rfl (ld_u32 _ _) (by assumption) (by assumption) ?_; simp only [Act.put, List.setIfInBounds_toArray, List.set_cons_zero, List.set_cons_succ]) | (refine q_go (f := 78) Tryd.func78 (by kernel_rfl) rfl #[.int .u32 _, .int .u64 _] _ _ rfl rfl rfl (by simp only [List.map_toArray, List.map_cons, List.map_nil]; rfl) (fun w' _ => rot_q _ _ (by decide) (by decide) w') ?_; simp only [Act.put, List.setIfInBounds_toArray, List.set_cons_zero, List.set_cons_succ]))
      refine wpQuiet_nil ?_
      clear c0 c1 c2 c3 c4 c5 c6 c7 hgv
      intro wm hw'
      have HV := Aside0.mk (show W8 wm gv ⟨a, b', c', d, e, f, g, h⟩ ∧ w.heap.size ≤ gv from ⟨HV.out.1.keep hw', HV.out.2⟩)
      have HR := Aside0.mk (HR.out.keep hw')
      have HST := Aside0.mk (HST.out.keep hw')
      have HB := Aside0.mk (below2 HB.out HB.out.size hw')
      have hgv := HV.out.1.lt
      have c0 : wm.cell? ⟨gv, 0, none⟩ = some (.int .u32 a) := HV.out.1.c0
      have c1 : wm.cell? ⟨gv, 1, none⟩ = some (.int .u32 b') := HV.out.1.c1
      have c2 : wm.cell? ⟨gv, 2, none⟩ = some (.int .u32 c') := HV.out.1.c2
      have c3 : wm.cell? ⟨gv, 3, none⟩ = some (.int .u32 d) := HV.out.1.c3
      have c4 : wm.cell? ⟨gv, 4, none⟩ = some (.int .u32 e) := HV.out.1.c4
      have c5 : wm.cell? ⟨gv, 5, none⟩ = some (.int .u32 f) := HV.out.1.c5
      have c6 : wm.cell? ⟨gv, 6, none⟩ = some (.int .u32 g) := HV.out.1.c6
      have c7 : wm.cell? ⟨gv, 7, none⟩ = some (.int .u32 h) := HV.out.1.c7
      clear hw'
      go_wp2_with fail
      rw [uu_ref]
      generalize uu a b' c' = u at *
      refine region_below_tail 26 (by kernel_rfl) (by kernel_rfl) ?_
      simp only [List.take_succ_cons, List.take_zero, List.drop_succ_cons, List.drop_zero]
      repeat (first | go_big_quiet_step (fail) | (refine BigFrame.wpQuiet_want (by rfl) (fun K hK => ?_); go_big_quiet_op; refine ⟨_, fun _ _ => rfl, hK _ ?_⟩; clear hK K) | (refine q_ld 91 _ _ _ _ rfl rfl rfl rfl (ld_u32 _ _) (by assumption) (by assumption) ?_; simp only [Act.put, List.setIfInBounds_toArray, List.set_cons_zero, List.set_cons_succ]))
      refine wpQuiet_nil ?_
      clear c0 c1 c2 c3 c4 c5 c6 c7 hgv
      intro wl hw'
      have HR := Aside0.mk (HR.out.keep hw')
      have HST := Aside0.mk (HST.out.keep hw')
      have HB := Aside0.mk (below2 HB.out HB.out.size hw')
      clear hw'
      go_wp2_with fail
      go_roundw
      case measure => simp [intOf]; omega
      case rel =>
        have hrow : Row (wl.alloc (.cells (arr .u32 [(t + u) % 4294967296, a, b', c', (d + t) % 4294967296, e, f, g]) 91)) wl.heap.size 91 (cv x KL WL (i + 1)).l := by
          rw [← hS.out, HT.out]
          exact Row.new wl _ _
        exact ⟨i + 1, wl.heap.size, 8, by omega, by go_num, rfl, ⟨W8.of _ hrow, HB.out.size, .inr ⟨rfl, hrow⟩⟩, ⟨HR.out.keep (below_alloc (Below.refl _ _) _)⟩, ⟨HST.out.keep (below_alloc (Below.refl _ _) _)⟩, ⟨below_alloc HB.out _⟩⟩
    · have hi : i = 64 := by omega
      have HI := Lib.hid (HRES.out i hi)
      have hrow : c = 8 ∧ Row wr gv 91 (cv x KL WL i).l := by
        rcases HV.out.2.2 with h | h
        · omega
        · exact h
      obtain ⟨rfl, hrow⟩ := hrow
      have hgB := HV.out.2.1
      have HN := Lib.hid hi
      clear hi hi64 HV HRES
      generalize cv x KL WL i = y at *
      have HY : Aside0 (Row wr gv 91 (ad y.l x.l 0)) := ⟨hrow⟩
      have hne : ga ≠ gv := by have := HGA.out; omega
      clear hrow
      go_wp2_with fail
      go_loopw [10] (fun n wr => ∃ j : Nat, j ≤ 8 ∧ n = .int .i64 j ∧ Aside0 (Row wr gv 91 (ad y.l x.l j)) ∧ Aside0 (W8 wr ga x) ∧ Aside0 (Below w.heap.size w wr)) (fun n _ => 8 - (intOf n).toNat)
      case atStart => exact ⟨0, by omega, rfl, HY, HST, HB⟩
      case round =>
        clear HY HST HB HR
        obtain ⟨j, hj, rfl, HY, HST, HB⟩ := hrel
        by_cases hlt : j < 8
        · have hyl : (ad y.l x.l j).length = 8 := ad_len _ _ _
          have hcv := HY.out.cell j (by omega)
          have hcs := HST.out.get j hlt
          have hgv := HY.out.lt
          have hga := HST.out.lt
          have hS : Hid (ad y.l x.l (j + 1) = (ad y.l x.l j).set j (((ad y.l x.l j).getD j 0 + x.l.getD j 0) % 4294967296)) := Lib.hid rfl
          generalize (ad y.l x.l j).getD j 0 = vv at *
          generalize x.l.getD j 0 = ss at *
          generalize ad y.l x.l j = L at *
          go_wp2_with fail
          refine region_below_tail 11 (by kernel_rfl) (by kernel_rfl) ?_
          simp only [List.take_succ_cons, List.take_zero, List.drop_succ_cons, List.drop_zero]
          repeat (first | go_big_quiet_step (fail) | (refine BigFrame.wpQuiet_want (by rfl) (fun K hK => ?_); go_big_quiet_op; refine ⟨_, fun _ _ => rfl, hK _ ?_⟩; clear hK K) | (refine q_ld 91 _ _ _ _ rfl rfl rfl rfl (ld_u32 _ _) (by assumption) (by assumption) ?_; simp only [Act.put, List.setIfInBounds_toArray, List.set_cons_zero, List.set_cons_succ]))
          refine wpQuiet_nil ?_
          intro wn hw'
          have HY := Aside0.mk (HY.out.keep hw')
          have HST := Aside0.mk (HST.out.keep hw')
          have HB := Aside0.mk (below2 HB.out HB.out.size hw')
          have hcv := HY.out.cell j (by omega)
          have hfr := HY.out.frozen j
          clear hw' hcs hyl
          go_wp2_with fail
          go_roundw
          case measure => simp [intOf]; omega
          case rel => exact ⟨j + 1, by omega, by go_num, ⟨by rw [hS.out]; exact HY.out.set j _⟩, ⟨HST.out.other hne j _⟩, ⟨HB.out.setCell (by simp; omega) _⟩⟩
        · have hj8 : j = 8 := by omega
          have HJ := Lib.hid hj8
          clear hj8 hj
          go_wp2_with fail
          go_ret
          have hy := HY.out
          rw [HJ.out, ← ad_comm] at hy
          have h8 : (ad x.l y.l 8).length = 8 := ad_len _ _ _
          rw [← v8_l _ h8, HI.out] at hy
          exact ⟨gv, rfl, W8.of _ hy, hgB, HB.out⟩
theorem refblock_calls (ga gb ob cb : Nat) (x : V8) (l : List UInt8) (hl : l.length = 64) (hcb : 64 ≤ cb) (w : World) (hst : W8 w ga x) (hga : ga < w.heap.size) (hb : ∀ j z, l[j]? = some z → w.cell? ⟨gb, ob + j, none⟩ = some (.int .u8 (z.toNat : Int))) :
    Calls Tryd.prog 58 #[.slice (some ⟨ga, 0, none⟩) 8 8, .slice (some ⟨gb, ob, none⟩) 64 cb] w fun e w' => ∃ g, e = .returned (.slice (some ⟨g, 0, none⟩) 8 8) ∧ W8 w' g (bv x ⟨l.toArray⟩) ∧ w.heap.size ≤ g ∧ Below w.heap.size w w' := by
  refine refblock_walk ga gb ob cb x (bv x ⟨l.toArray⟩) l hl (wlAll ⟨l.toArray⟩) (wlAll_len _) 70 (words_f l hl) ?_ hcb w hst hga hb
  rintro i rfl
  rfl
end Go.Proofs.YtpgfafpjfdbjmaaDoor
end
section
namespace Go.Proofs.YtpgfafpjfdbjmaaDoor
open Go.RowKit Q Go.Proofs.YtpgfafpjfdbjmaaDoorW.PrintWords Go.Proofs.YtpgfafpjfdbjmaaDoorW.PrintLast Go.Proofs.YtpgfafpjfdbjmaaDoorW.PrintMore
theorem app_run {P : Program} {W W' : World} {v' : Value} {t : TypeId} {v : Value} {ad : Addr} {n c : Nat} (ev : Operand → Value) (s x : Operand) {o : Oper} (ho : o.op = .call { callee := .builtin .append, args := #[s, x], argTypes := #[t, t] }) (hs : ev s = v) (hx : ev x = .slice (some ad) n c)
    (hr : (Builtin.append_ #[t, t] o.type #[v, .slice (some ad) n c]).run P W = .ok v' W') : (execOp ev o).run P W = .ok (.value v') W' := by
  unfold execOp
  simp only [ho, resolve, invoke, builtin, Sem.run_bind, Sem.run_pure, Result.andThen_ok, List.map_toArray, List.map_cons, List.map_nil, hs, hx, hr]
theorem be4_cells (xx : Int) (wn : World) : ∀ j x, (be4 xx)[j]? = some x → (wn.alloc (.cells #[.int .u8 (IntKind.u8.wrap (xx / 16777216)), .int .u8 (IntKind.u8.wrap (xx / 65536)), .int .u8 (IntKind.u8.wrap (xx / 256)), .int .u8 (IntKind.u8.wrap xx)] 5)).cell? ((⟨wn.heap.size, 0, none⟩ : Addr).add j) = some (.int .u8 (x.toNat : Int)) := by
  intro j z hz
  match j, hz with
  | 0, hz => simp only [be4, List.getElem?_cons_zero, Option.some.injEq] at hz; subst hz; rw [be_byte]; simp [Addr.add, IntKind.wrap_u8]
  | 1, hz => simp only [be4, List.getElem?_cons_zero, List.getElem?_cons_succ, Option.some.injEq] at hz; subst hz; rw [be_byte]; simp [Addr.add, IntKind.wrap_u8]
  | 2, hz => simp only [be4, List.getElem?_cons_zero, List.getElem?_cons_succ, Option.some.injEq] at hz; subst hz; rw [be_byte]; simp [Addr.add, IntKind.wrap_u8]
  | 3, hz => simp only [be4, List.getElem?_cons_zero, List.getElem?_cons_succ, Option.some.injEq] at hz; subst hz; rw [be_byte]; simp [Addr.add, IntKind.wrap_u8]
  | j + 4, hz => simp [be4] at hz
set_option maxRecDepth 100000 in
set_option maxHeartbeats 1000000 in
theorem refsum_walk (s : ByteArray) (hs : s.size ≤ 17592186044416) (L nb : Nat) (PL : List UInt8) (hPL : fill2 s s.size = PL) (hL : PL.length = L) (hnb : 64 * nb = L) (x0 : V8) (hx0 : x0 = H8) (R : List UInt8) (hR : ∀ i, i = nb → ∀ j, j = 8 → outk (fd x0 ⟨PL.toArray⟩ i).l j = R) (w : World) :
    Calls Tryd.prog 40 #[.string s] w fun e w' => e = .returned (.string ⟨R.toArray⟩) ∧ Below w.heap.size w w' := by
  obtain ⟨i0, hi, hz0, hz1, hz2⟩ := info8
  have hLb : L ≤ 17592186044600 := by
    have : (fill2 s s.size).length = L := by rw [hPL]; exact hL
    unfold fill2 fill1 fill0 at this
    simp only [List.length_append, List.length_replicate, szb_len, Array.length_toList, List.length_cons, List.length_nil] at this
    have h1 : s.data.size = s.size := rfl
    unfold pz at this
    omega
  have HR := Lib.hid hR
  have HX := Lib.hid hx0
  have hf := fun W => filled_calls s hs W
  rw [hPL, hL] at hf
  have HF := Lib.hid hf
  have HL := Lib.hid hL
  have HN := Lib.hid hnb
  clear hR hx0 hf hPL hL hnb hs
  go_enter Tryd.func40, Tryd.ntmps40
  go_wp2_with fail
  have H1 : W8 (w.alloc (.cells #[.int .u32 1779033703, .int .u32 3144134277, .int .u32 1013904242, .int .u32 2773480762, .int .u32 1359893119, .int .u32 2600822924, .int .u32 528734635, .int .u32 1541459225] 91)) w.heap.size H8 := W8.of H8 (Row.new w 91 H8.l)
  have H2 : Below w.heap.size w (w.alloc (.cells #[.int .u32 1779033703, .int .u32 3144134277, .int .u32 1013904242, .int .u32 2773480762, .int .u32 1359893119, .int .u32 2600822924, .int .u32 528734635, .int .u32 1541459225] 91)) := below_alloc (Below.refl _ _) _
  rw [← HX.out] at H1
  have H3 := Aside0.mk H1
  have H4 := Aside0.mk H2
  clear H1 H2
  refine Calls.mono (HF.out _) ?_
  rintro e w1 ⟨gb, cb, rfl, hRow, hB⟩
  have hcb : L ≤ cb ∨ L = 0 := by
    rcases hRow with ⟨h, _⟩ | ⟨g, cap, cur, fz, hv, _, _, _, h1, _⟩
    · cases h
    · simp only [Value.slice.injEq] at hv
      left; have := HL.out; omega
  have HV := Aside0.mk (H3.out.keep hB)
  have HB := Aside0.mk (below2 H4.out H4.out.size hB)
  have HP := Aside0.mk hRow
  clear H3 H4 hB hRow HF
  have HG : Aside0 (w.heap.size < w1.heap.size) := ⟨HV.out.lt⟩
  go_wp2_with fail
  go_loopw [3, 5] (fun v n wr => ∃ k gs p : Nat, k ≤ nb ∧ n = .int .i64 p ∧ p ≤ 17592186044600 ∧ v = .slice (some ⟨gs, 0, none⟩) 8 8 ∧ Aside0 (p = 64 * k) ∧ Aside0 (W8 wr gs (fd x0 ⟨PL.toArray⟩ k)) ∧ Aside0 (RowB w.heap.size 5 (.slice (some ⟨gb, 0, none⟩) L cb) PL wr) ∧ Aside0 (Below w.heap.size w wr)) (fun _ n _ => 64 * nb + 1 - (intOf n).toNat)
  case atStart => exact ⟨0, w.heap.size, 0, by omega, rfl, by omega, rfl, ⟨by omega⟩, HV, ⟨HP.out.raise (by simp)⟩, HB⟩
  case round =>
    clear HV HP HB
    obtain ⟨k, gs, p, hk, rfl, hpb, rfl, HPK, HV, HP, HB⟩ := hrel
    by_cases hlt : k < nb
    · have hlt2 : (p : Int) < (L : Int) := by have := HN.out; have := HPK.out; omega
      have hle2 : (p : Int) + 64 ≤ (L : Int) := by have := HN.out; have := HPK.out; omega
      have hle3 : (p : Int) + 64 ≤ (cb : Int) := by omega
      have hne : ¬ cb = p := by omega
      have hS : Hid (bv (fd x0 ⟨PL.toArray⟩ k) ((⟨PL.toArray⟩ : ByteArray).extract (64 * k) (64 * k + 64)) = fd x0 ⟨PL.toArray⟩ (k + 1)) := Lib.hid rfl
      have hchl : ((PL.drop (64 * k)).take 64).length = 64 := by
        rw [List.length_take, List.length_drop]
        have := HL.out
        have := HPK.out
        omega
      have hcx : ∀ (j : Nat) (z : UInt8), ((PL.drop (64 * k)).take 64)[j]? = some z → wr.cell? ⟨gb, p + j, none⟩ = some (.int .u8 (z.toNat : Int)) := by
        intro j z hz
        rw [List.getElem?_take] at hz
        split at hz
        · rw [List.getElem?_drop, ← HPK.out] at hz
          exact HP.out.cells (g := gb) rfl (p + j) z hz
        · cases hz
      have hchunk : (⟨((PL.drop (64 * k)).take 64).toArray⟩ : ByteArray) = (⟨PL.toArray⟩ : ByteArray).extract (64 * k) (64 * k + 64) := by
        have := B_extract PL (64 * k) (64 * k + 64)
        rw [Nat.add_sub_cancel_left] at this
        exact this.symm
      have hh := Lib.hid (refblock_calls gs gb p (cb - p) (fd x0 ⟨PL.toArray⟩ k) ((PL.drop (64 * k)).take 64) hchl (by omega) wr HV.out HV.out.lt hcx)
      rw [hchunk, hS.out] at hh
      clear hchl hcx hchunk hS
      generalize fd x0 ⟨PL.toArray⟩ k = y at *
      obtain ⟨y1, hy1⟩ : ∃ y1, y1 = fd x0 ⟨PL.toArray⟩ (k + 1) := ⟨_, rfl⟩
      rw [← hy1] at hh
      have hYk := Lib.hid hy1
      clear hy1
      have hw1 : IntKind.i64.wrap ((p : Int) + 64) = (p : Int) + 64 := IntWalk.i64_in _ (by omega)
      go_wp2_with fail
      refine Calls.mono hh.out ?_
      clear hh
      rintro e w2 ⟨g2, rfl, hV2, _, hB2⟩
      have HV := Aside0.mk hV2
      have HP := Aside0.mk (HP.out.below hB2)
      have HB := Aside0.mk (below2 HB.out HB.out.size hB2)
      clear hV2 hB2
      go_wp2_with fail
      go_roundw
      case measure => simp [intOf]; have := HPK.out; omega
      case rel => exact ⟨k + 1, g2, p + 64, by omega, by go_num, by omega, rfl, ⟨by have := HPK.out; omega⟩, ⟨by rw [← hYk.out]; exact HV.out⟩, HP, HB⟩
    · have hge : ¬ (p : Int) < (L : Int) := by have := HN.out; have := HPK.out; omega
      have HK := Lib.hid (HR.out k (by omega))
      clear hlt hk
      generalize fd x0 ⟨PL.toArray⟩ k = y at *
      have hgs := HV.out.lt
      have HO : Aside0 (RowB wr.heap.size 5 (.slice none 0 0) (outk y.l 0) wr) := ⟨.inl ⟨rfl, rfl⟩⟩
      have HQ : Aside0 (Below wr.heap.size wr wr) := ⟨Below.refl _ _⟩
      go_wp2_with fail
      have hbw : w.heap.size ≤ wr.heap.size := HB.out.size
      obtain ⟨wq, rfl⟩ : ∃ wo : World, wo = wr := ⟨_, rfl⟩
      obtain ⟨bb, hbb⟩ : ∃ bb : Nat, bb = wq.heap.size := ⟨_, rfl⟩
      have hbq : bb ≤ wq.heap.size := by omega
      rw [← hbb] at HO HQ hgs hbw
      go_loopw [6, 7] (fun v n wr => ∃ (j : Nat) (A : Option Addr) (m c : Nat), j ≤ 8 ∧ n = .int .i64 j ∧ v = .slice A m c ∧ Aside0 (RowB bb 5 (.slice A m c) (outk y.l j) wr) ∧ Aside0 (Below bb wq wr)) (fun _ n _ => 8 - (intOf n).toNat)
      case atStart => exact ⟨0, _, _, _, by omega, rfl, rfl, HO, HQ⟩
      case round =>
        clear HO HQ
        obtain ⟨j, A, m, c, hj, rfl, rfl, HO, HQ⟩ := hrel
        by_cases hlt : j < 8
        · have hcj := (HQ.out.cell (p := ⟨gs, j, none⟩) hgs).trans (HV.out.get j hlt)
          have HO2 : Hid (outk y.l (j + 1) = outk y.l j ++ be4 (y.l.getD j 0)) := Lib.hid rfl
          generalize y.l.getD j 0 = xx at *
          have hji : (j : Int) < 8 := by omega
          go_wp2_with fail
          refine start_ (n := 27) (S := fun w' => w'.cell? ⟨gs, j, none⟩ = some (.int .u32 xx) ∧ Aside0 (RowB bb 5 (.slice A m c) (outk y.l j) w') ∧ Aside0 (Below bb wq w')) (ds := [25]) #[false, false, false, false, false, false, false, false, false, false, false, false, false, false, false, false, false, false, false, false, false, false, false, false, false, false, false] (by kernel_rfl) rfl rfl ⟨hcj, ⟨HO.out.below (Below.drew (Below.refl _ _))⟩, ⟨Below.drew HQ.out⟩⟩ (fun hHeld => ?_)
          generalize wr.drew = wn at hHeld ⊢
          refine pure_ (i := 0) (N := some 28) (v := ?_) (a' := ?_) #[true, false, false, false, false, false, false, false, false, false, false, false, false, false, false, false, false, false, false, false, false, false, false, false, false, false, false] rfl rfl (by kernel_rfl) (fun _ _ _ h => h) (Or.inl ⟨by rfl, ?_⟩) ?_ ?_
          rotate_left
          · intro w'
            go_simp
            with_reducible rfl
          rotate_left
          · simp only [Act.put, List.setIfInBounds_toArray, List.set_cons_zero, List.set_cons_succ]
            rfl
          refine pure_ (i := 1) (N := some 29) (v := ?_) (a' := ?_) #[true, true, false, false, false, false, false, false, false, false, false, false, false, false, false, false, false, false, false, false, false, false, false, false, false, false, false] rfl rfl (by kernel_rfl) (fun _ _ _ h => h) (Or.inl ⟨by rfl, ?_⟩) ?_ ?_
          rotate_left
          · intro w'
            go_simp
            with_reducible rfl
          rotate_left
          · simp only [Act.put, List.setIfInBounds_toArray, List.set_cons_zero, List.set_cons_succ]
            rfl
          refine pure_ (i := 2) (N := some 30) (v := ?_) (a' := ?_) #[true, true, true, false, false, false, false, false, false, false, false, false, false, false, false, false, false, false, false, false, false, false, false, false, false, false, false] rfl rfl (by kernel_rfl) (fun _ _ _ h => h) (Or.inl ⟨by rfl, ?_⟩) ?_ ?_
          rotate_left
          · intro w'
            go_simp
            with_reducible rfl
          rotate_left
          · simp only [Act.put, List.setIfInBounds_toArray, List.set_cons_zero, List.set_cons_succ]
            rfl
          refine pure_ (i := 3) (N := some 31) (v := ?_) (a' := ?_) #[true, true, true, true, false, false, false, false, false, false, false, false, false, false, false, false, false, false, false, false, false, false, false, false, false, false, false] rfl rfl (by kernel_rfl) (fun _ _ _ h => h) (Or.inl ⟨by rfl, ?_⟩) ?_ ?_
          rotate_left
          · intro w'
            go_simp
            with_reducible rfl
          rotate_left
          · simp only [Act.put, List.setIfInBounds_toArray, List.set_cons_zero, List.set_cons_succ]
            rfl
          refine pure_ (i := 7) (N := some 35) (v := ?_) (a' := ?_) #[true, true, true, true, false, false, false, true, false, false, false, false, false, false, false, false, false, false, false, false, false, false, false, false, false, false, false] rfl rfl (by kernel_rfl) (fun _ _ _ h => h) (Or.inl ⟨by rfl, ?_⟩) ?_ ?_
          rotate_left
          · intro w'
            go_simp
            with_reducible rfl
          rotate_left
          · simp only [Act.put, List.setIfInBounds_toArray, List.set_cons_zero, List.set_cons_succ]
            rfl
          refine pure_ (i := 8) (N := some 36) (v := ?_) (a' := ?_) #[true, true, true, true, false, false, false, true, true, false, false, false, false, false, false, false, false, false, false, false, false, false, false, false, false, false, false] rfl rfl (by kernel_rfl) (fun _ _ _ h => h) (Or.inl ⟨by rfl, ?_⟩) ?_ ?_
          rotate_left
          · intro w'
            go_simp
            with_reducible rfl
          rotate_left
          · simp only [Act.put, List.setIfInBounds_toArray, List.set_cons_zero, List.set_cons_succ]
            rfl
          refine pure_ (i := 9) (N := some 37) (v := ?_) (a' := ?_) #[true, true, true, true, false, false, false, true, true, true, false, false, false, false, false, false, false, false, false, false, false, false, false, false, false, false, false] rfl rfl (by kernel_rfl) (fun _ _ _ h => h) (Or.inl ⟨by rfl, ?_⟩) ?_ ?_
          rotate_left
          · intro w'
            go_simp
            with_reducible rfl
          rotate_left
          · simp only [Act.put, List.setIfInBounds_toArray, List.set_cons_zero, List.set_cons_succ]
            rfl
          refine pure_ (i := 13) (N := some 41) (v := ?_) (a' := ?_) #[true, true, true, true, false, false, false, true, true, true, false, false, false, true, false, false, false, false, false, false, false, false, false, false, false, false, false] rfl rfl (by kernel_rfl) (fun _ _ _ h => h) (Or.inl ⟨by rfl, ?_⟩) ?_ ?_
          rotate_left
          · intro w'
            go_simp
            with_reducible rfl
          rotate_left
          · simp only [Act.put, List.setIfInBounds_toArray, List.set_cons_zero, List.set_cons_succ]
            rfl
          refine pure_ (i := 14) (N := some 42) (v := ?_) (a' := ?_) #[true, true, true, true, false, false, false, true, true, true, false, false, false, true, true, false, false, false, false, false, false, false, false, false, false, false, false] rfl rfl (by kernel_rfl) (fun _ _ _ h => h) (Or.inl ⟨by rfl, ?_⟩) ?_ ?_
          rotate_left
          · intro w'
            go_simp
            with_reducible rfl
          rotate_left
          · simp only [Act.put, List.setIfInBounds_toArray, List.set_cons_zero, List.set_cons_succ]
            rfl
          refine pure_ (i := 15) (N := some 43) (v := ?_) (a' := ?_) #[true, true, true, true, false, false, false, true, true, true, false, false, false, true, true, true, false, false, false, false, false, false, false, false, false, false, false] rfl rfl (by kernel_rfl) (fun _ _ _ h => h) (Or.inl ⟨by rfl, ?_⟩) ?_ ?_
          rotate_left
          · intro w'
            go_simp
            with_reducible rfl
          rotate_left
          · simp only [Act.put, List.setIfInBounds_toArray, List.set_cons_zero, List.set_cons_succ]
            rfl
          refine pure_ (i := 19) (N := some 47) (v := ?_) (a' := ?_) #[true, true, true, true, false, false, false, true, true, true, false, false, false, true, true, true, false, false, false, true, false, false, false, false, false, false, false] rfl rfl (by kernel_rfl) (fun _ _ _ h => h) (Or.inl ⟨by rfl, ?_⟩) ?_ ?_
          rotate_left
          · intro w'
            go_simp
            with_reducible rfl
          rotate_left
          · simp only [Act.put, List.setIfInBounds_toArray, List.set_cons_zero, List.set_cons_succ]
            rfl
          refine pure_ (i := 20) (N := some 48) (v := ?_) (a' := ?_) #[true, true, true, true, false, false, false, true, true, true, false, false, false, true, true, true, false, false, false, true, true, false, false, false, false, false, false] rfl rfl (by kernel_rfl) (fun _ _ _ h => h) (Or.inl ⟨by rfl, ?_⟩) ?_ ?_
          rotate_left
          · intro w'
            go_simp
            with_reducible rfl
          rotate_left
          · simp only [Act.put, List.setIfInBounds_toArray, List.set_cons_zero, List.set_cons_succ]
            rfl
          refine pure_ (i := 21) (N := some 49) (v := ?_) (a' := ?_) #[true, true, true, true, false, false, false, true, true, true, false, false, false, true, true, true, false, false, false, true, true, true, false, false, false, false, false] rfl rfl (by kernel_rfl) (fun _ _ _ h => h) (Or.inl ⟨by rfl, ?_⟩) ?_ ?_
          rotate_left
          · intro w'
            go_simp
            with_reducible rfl
          rotate_left
          · simp only [Act.put, List.setIfInBounds_toArray, List.set_cons_zero, List.set_cons_succ]
            rfl
          refine take_ (i := 4) (N := some 32) (v := ?_) (a' := ?_) #[true, true, true, true, true, false, false, true, true, true, false, false, false, true, true, true, false, false, false, true, true, true, false, false, false, false, false] rfl rfl (by kernel_rfl) (fun _ _ _ h => h) (Or.inl ⟨by rfl, ?_⟩) hHeld ?_ ?_
          rotate_left
          · rintro w' ⟨s0, s1, s2⟩
            go_simp
            with_reducible rfl
          rotate_left
          · simp only [Act.put, List.setIfInBounds_toArray, List.set_cons_zero, List.set_cons_succ]
            rfl
          refine pure_ (i := 5) (N := some 33) (v := ?_) (a' := ?_) #[true, true, true, true, true, true, false, true, true, true, false, false, false, true, true, true, false, false, false, true, true, true, false, false, false, false, false] rfl rfl (by kernel_rfl) (fun _ _ _ h => h) (Or.inl ⟨by rfl, ?_⟩) ?_ ?_
          rotate_left
          · intro w'
            go_simp
            with_reducible rfl
          rotate_left
          · simp only [Act.put, List.setIfInBounds_toArray, List.set_cons_zero, List.set_cons_succ]
            rfl
          refine pure_ (i := 6) (N := some 34) (v := ?_) (a' := ?_) #[true, true, true, true, true, true, true, true, true, true, false, false, false, true, true, true, false, false, false, true, true, true, false, false, false, false, false] rfl rfl (by kernel_rfl) (fun _ _ _ h => h) (Or.inl ⟨by rfl, ?_⟩) ?_ ?_
          rotate_left
          · intro w'
            go_simp
            with_reducible rfl
          rotate_left
          · simp only [Act.put, List.setIfInBounds_toArray, List.set_cons_zero, List.set_cons_succ]
            rfl
          refine take_ (i := 10) (N := some 38) (v := ?_) (a' := ?_) #[true, true, true, true, true, true, true, true, true, true, true, false, false, true, true, true, false, false, false, true, true, true, false, false, false, false, false] rfl rfl (by kernel_rfl) (fun _ _ _ h => h) (Or.inl ⟨by rfl, ?_⟩) hHeld ?_ ?_
          rotate_left
          · rintro w' ⟨s0, s1, s2⟩
            go_simp
            with_reducible rfl
          rotate_left
          · simp only [Act.put, List.setIfInBounds_toArray, List.set_cons_zero, List.set_cons_succ]
            rfl
          refine pure_ (i := 11) (N := some 39) (v := ?_) (a' := ?_) #[true, true, true, true, true, true, true, true, true, true, true, true, false, true, true, true, false, false, false, true, true, true, false, false, false, false, false] rfl rfl (by kernel_rfl) (fun _ _ _ h => h) (Or.inl ⟨by rfl, ?_⟩) ?_ ?_
          rotate_left
          · intro w'
            go_simp
            with_reducible rfl
          rotate_left
          · simp only [Act.put, List.setIfInBounds_toArray, List.set_cons_zero, List.set_cons_succ]
            rfl
          refine pure_ (i := 12) (N := some 40) (v := ?_) (a' := ?_) #[true, true, true, true, true, true, true, true, true, true, true, true, true, true, true, true, false, false, false, true, true, true, false, false, false, false, false] rfl rfl (by kernel_rfl) (fun _ _ _ h => h) (Or.inl ⟨by rfl, ?_⟩) ?_ ?_
          rotate_left
          · intro w'
            go_simp
            with_reducible rfl
          rotate_left
          · simp only [Act.put, List.setIfInBounds_toArray, List.set_cons_zero, List.set_cons_succ]
            rfl
          refine take_ (i := 16) (N := some 44) (v := ?_) (a' := ?_) #[true, true, true, true, true, true, true, true, true, true, true, true, true, true, true, true, true, false, false, true, true, true, false, false, false, false, false] rfl rfl (by kernel_rfl) (fun _ _ _ h => h) (Or.inl ⟨by rfl, ?_⟩) hHeld ?_ ?_
          rotate_left
          · rintro w' ⟨s0, s1, s2⟩
            go_simp
            with_reducible rfl
          rotate_left
          · simp only [Act.put, List.setIfInBounds_toArray, List.set_cons_zero, List.set_cons_succ]
            rfl
          refine pure_ (i := 17) (N := some 45) (v := ?_) (a' := ?_) #[true, true, true, true, true, true, true, true, true, true, true, true, true, true, true, true, true, true, false, true, true, true, false, false, false, false, false] rfl rfl (by kernel_rfl) (fun _ _ _ h => h) (Or.inl ⟨by rfl, ?_⟩) ?_ ?_
          rotate_left
          · intro w'
            go_simp
            with_reducible rfl
          rotate_left
          · simp only [Act.put, List.setIfInBounds_toArray, List.set_cons_zero, List.set_cons_succ]
            rfl
          refine pure_ (i := 18) (N := some 46) (v := ?_) (a' := ?_) #[true, true, true, true, true, true, true, true, true, true, true, true, true, true, true, true, true, true, true, true, true, true, false, false, false, false, false] rfl rfl (by kernel_rfl) (fun _ _ _ h => h) (Or.inl ⟨by rfl, ?_⟩) ?_ ?_
          rotate_left
          · intro w'
            go_simp
            with_reducible rfl
          rotate_left
          · simp only [Act.put, List.setIfInBounds_toArray, List.set_cons_zero, List.set_cons_succ]
            rfl
          refine take_ (i := 22) (N := some 50) (v := ?_) (a' := ?_) #[true, true, true, true, true, true, true, true, true, true, true, true, true, true, true, true, true, true, true, true, true, true, true, false, false, false, false] rfl rfl (by kernel_rfl) (fun _ _ _ h => h) (Or.inl ⟨by rfl, ?_⟩) hHeld ?_ ?_
          rotate_left
          · rintro w' ⟨s0, s1, s2⟩
            go_simp
            with_reducible rfl
          rotate_left
          · simp only [Act.put, List.setIfInBounds_toArray, List.set_cons_zero, List.set_cons_succ]
            rfl
          refine pure_ (i := 23) (N := some 51) (v := ?_) (a' := ?_) #[true, true, true, true, true, true, true, true, true, true, true, true, true, true, true, true, true, true, true, true, true, true, true, true, false, false, false] rfl rfl (by kernel_rfl) (fun _ _ _ h => h) (Or.inl ⟨by rfl, ?_⟩) ?_ ?_
          rotate_left
          · intro w'
            go_simp
            with_reducible rfl
          rotate_left
          · simp only [Act.put, List.setIfInBounds_toArray, List.set_cons_zero, List.set_cons_succ]
            rfl
          refine one_ (i := 24) (N := some 52) #[true, true, true, true, true, true, true, true, true, true, true, true, true, true, true, true, true, true, true, true, true, true, true, true, true, false, false] rfl rfl (by kernel_rfl) (by decide) (fun K hK => ?_)
          refine value_ (w1 := ?_) (v := ?_) (by rfl) rfl ?_ ?_
          rotate_left 2
          · go_simp
            constructor
            · rfl
            · rfl
          have hA : Below wn.heap.size wn (wn.alloc (.cells #[.int .u8 (IntKind.u8.wrap (xx / 16777216)), .int .u8 (IntKind.u8.wrap (xx / 65536)), .int .u8 (IntKind.u8.wrap (xx / 256)), .int .u8 (IntKind.u8.wrap xx)] 5)) := below_alloc (Below.refl _ _) _
          refine hK.out _ _ ⟨((hA.cell (Nat.lt_of_lt_of_le hgs (Nat.le_trans hbq hHeld.2.2.out.size))).trans hHeld.1), ⟨hHeld.2.1.out.below hA⟩, ⟨below2 hHeld.2.2.out (Nat.le_trans hbq hHeld.2.2.out.size) hA⟩⟩ (fun hHeld => ?_)
          clear hK K
          refine norm_ (a' := ?_) ?_ ?_
          rotate_left
          · show Act.put _ (some 52) _ = _
            simp only [Act.put, List.setIfInBounds_toArray, List.set_cons_zero, List.set_cons_succ]
            rfl
          refine last_ (i := 25) (N := some 53) #[true, true, true, true, true, true, true, true, true, true, true, true, true, true, true, true, true, true, true, true, true, true, true, true, true, true, false] rfl rfl (by kernel_rfl) (by decide) (fun K hK => ?_)
          obtain ⟨v2, w2, hr2, hO2, hg2⟩ := run_append_rowB (P := Tryd.prog) (wn.alloc (.cells #[.int .u8 (IntKind.u8.wrap (xx / 16777216)), .int .u8 (IntKind.u8.wrap (xx / 65536)), .int .u8 (IntKind.u8.wrap (xx / 256)), .int .u8 (IntKind.u8.wrap xx)] 5)) bb 59 59 5 i0 (by kernel_rfl) hi hz0 hz1 hz2 (.slice A m c) (outk y.l j) (be4 xx) hHeld.2.1.out ⟨wn.heap.size, 0, none⟩ 4 (be4_cells xx wn) (by rw [outk_len]; simp [be4]; omega) (Nat.le_trans hbq hHeld.2.2.out.size)
          have hQ2 := hHeld.2.2.out.grown hg2 (Nat.le_trans hbq hHeld.2.2.out.size) (fun k hk => (hHeld.2.1.out.lt k hk).1)
          refine value_ (v := v2) (w1 := w2) (by rfl) rfl (app_run _ (.tmp 28) (.tmp 52) rfl rfl rfl hr2) ?_
          refine hK.out _ _ ?_
          clear hK K
          refine norm_ (a' := ?_) ?_ ?_
          rotate_left
          · show Act.put _ (some 53) _ = _
            simp only [Act.put, List.setIfInBounds_toArray, List.set_cons_zero, List.set_cons_succ]
            rfl
          refine pure_ (i := 26) (N := some 6) (v := ?_) (a' := ?_) #[true, true, true, true, true, true, true, true, true, true, true, true, true, true, true, true, true, true, true, true, true, true, true, true, true, true, true] rfl rfl (by kernel_rfl) (fun _ _ _ h => h) (Or.inl ⟨by rfl, ?_⟩) ?_ ?_
          rotate_left
          · intro w'
            go_simp
            with_reducible rfl
          rotate_left
          · simp only [Act.put, List.setIfInBounds_toArray, List.set_cons_zero, List.set_cons_succ]
            rfl
          refine done_ (by kernel_rfl) ?_
          have HO := Aside0.mk hO2
          have HQ := Aside0.mk hQ2
          obtain ⟨g4, c4, rfl, _⟩ := hO2.ne (by simp [be4])
          clear hO2 hQ2 hr2 hg2 hA hHeld hcj
          go_wp2_with fail
          go_roundw
          case measure => simp [intOf]; omega
          case rel => exact ⟨j + 1, _, _, _, by omega, by go_num, rfl, ⟨by rw [HO2.out]; exact HO.out⟩, HQ⟩
        · have HJ := Lib.hid (show j = 8 by omega)
          have hjn : ¬ (j : Int) < 8 := by omega
          have hRj := HK.out j HJ.out
          have HRj := Lib.hid hRj
          have hO := HO.out
          rw [hRj] at hO
          clear hlt hj hRj HO
          have hR0 : R ≠ [] := by
            intro h0
            have := congrArg List.length HRj.out
            rw [outk_len, h0, HJ.out] at this
            cases this
          obtain ⟨g5, c5, hv5, _⟩ := hO.ne hR0
          simp only [Value.slice.injEq] at hv5
          obtain ⟨rfl, rfl, rfl⟩ := hv5
          have hcv := run_string_bytes (P := Tryd.prog) wr 59 9 5 Tryd.underlying59 Tryd.underlying5 Tryd.underlying9 g5 0 c R (fun j x hx => by rw [Nat.zero_add]; exact hO.cells (g := g5) rfl j x hx)
          have HF := Aside0.mk (HB.out.trans (HQ.out.mono hbw))
          clear hO
          go_wp2_with fail
          go_ret
          exact ⟨rfl, HF.out⟩
end Go.Proofs.YtpgfafpjfdbjmaaDoor
end
section
namespace Go.Proofs.YtpgfafpjfdbjmaaDoor
open Go.RowKit Q Go.Proofs.YtpgfafpjfdbjmaaDoorW.PrintWords Go.Proofs.YtpgfafpjfdbjmaaDoorW.PrintLast Go.Proofs.YtpgfafpjfdbjmaaDoorW.PrintMore
theorem fd_prefix (x : V8) (a b : List UInt8) (q : Nat) (ha : 64 * q ≤ a.length) : fd x (B (a ++ b)) q = fd x (B a) q := by
  induction q with
  | zero => rfl
  | succ q ih =>
    rw [fd, fd, ih (by omega), B_extract, B_extract]
    congr 2
    rw [List.drop_append_of_le_length (by omega), List.take_append_of_le_length (by rw [List.length_drop]; omega)]
theorem fd_append (x : V8) (a b : List UInt8) (q : Nat) (ha : a.length = 64 * q) (k : Nat) : fd x (B (a ++ b)) (q + k) = fd (fd x (B a) q) (B b) k := by
  induction k with
  | zero => exact fd_prefix x a b q (by omega)
  | succ k ih =>
    rw [← Nat.add_assoc, fd, fd, ih, B_extract, B_extract]
    congr 2
    rw [List.drop_append, ha, show 64 * (q + k) - 64 * q = 64 * k by omega, List.drop_of_length_le (by rw [ha]; omega), List.nil_append, show 64 * (q + k) + 64 - 64 * (q + k) = 64 by omega, show 64 * k + 64 - 64 * k = 64 by omega]
theorem parts (l : List UInt8) : ∃ a b : List UInt8, l = a ++ b ∧ a.length = 64 * (l.length / 64) ∧ b.length = l.length % 64 ∧ b = l.drop (64 * (l.length / 64)) ∧ a = l.take (64 * (l.length / 64)) :=
  ⟨l.take (64 * (l.length / 64)), l.drop (64 * (l.length / 64)), (List.take_append_drop _ _).symm, by rw [List.length_take]; omega, by rw [List.length_drop]; omega, rfl, rfl⟩
theorem rest_eq (l : List UInt8) : (B l).extract (64 * ((B l).size / 64)) (B l).size = B (l.drop (64 * (l.length / 64))) := by
  rw [B_size, B_extract, List.take_of_length_le (by rw [List.length_drop]; omega)]
theorem fd_more (x : V8) (l m : List UInt8) : fd (fd x (B l) (l.length / 64)) (B (l.drop (64 * (l.length / 64)) ++ m)) ((l.drop (64 * (l.length / 64)) ++ m).length / 64) = fd x (B (l ++ m)) ((l ++ m).length / 64) := by
  obtain ⟨a, b, hl, ha, hb, hbd, hat⟩ := parts l
  rw [← hbd]
  have e1 : fd x (B l) (l.length / 64) = fd x (B a) (l.length / 64) := by
    conv => lhs; rw [hl]
    rw [show (a ++ b).length = l.length by rw [← hl]]
    exact fd_prefix x a b _ (by omega)
  rw [e1, ← fd_append x a (b ++ m) _ ha, ← List.append_assoc, ← hl]
  congr 1
  simp only [List.length_append]
  omega
theorem fill0_B (l : List UInt8) : fill0 (B l) = l ++ [128] := rfl
theorem fill_more (l : List UInt8) (n : Nat) : fill2 (B l) n = l.take (64 * (l.length / 64)) ++ fill2 (B (l.drop (64 * (l.length / 64)))) n := by
  unfold fill2 fill1
  rw [fill0_B, fill0_B]
  have hp : pz (l ++ [128]).length = pz (l.drop (64 * (l.length / 64)) ++ [128]).length := by
    unfold pz
    simp only [List.length_append, List.length_drop, List.length_cons, List.length_nil]
    omega
  rw [hp]
  simp only [← List.append_assoc]
  rw [List.take_append_drop]
def SHA (l : List UInt8) : List UInt8 := outk (fd H8 (B (fill2 (B l) l.length)) ((fill2 (B l) l.length).length / 64)).l 8
theorem sha_rest (l : List UInt8) : outk (fd (fd H8 (B l) (l.length / 64)) (B (fill2 (B (l.drop (64 * (l.length / 64)))) l.length)) ((fill2 (B (l.drop (64 * (l.length / 64)))) l.length).length / 64)).l 8 = SHA l := by
  obtain ⟨a, b, hl, ha, hb, hbd, hat⟩ := parts l
  unfold SHA
  rw [← hbd]
  have e1 : fd H8 (B l) (l.length / 64) = fd H8 (B a) (l.length / 64) := by
    conv => lhs; rw [hl]
    rw [show (a ++ b).length = l.length by rw [← hl]]
    exact fd_prefix H8 a b _ (by omega)
  have e2 := fill_more l l.length
  rw [← hbd, ← hat] at e2
  rw [e1, ← fd_append H8 a _ _ ha, e2]
  congr 3
  rw [List.length_append, ha]
  omega
theorem SHA_len (l : List UInt8) : (SHA l).length = 32 := outk_len _ 8
def Is (w : World) (g : Nat) (l : List UInt8) : Prop := DSt w g (fd H8 (B l) (l.length / 64)) (B (l.drop (64 * (l.length / 64)))) l.length
theorem new_is (w : World) : Calls Tryd.prog 48 #[] w fun e w' => ∃ g, e = .returned (.pointer (some ⟨g, 0, none⟩)) ∧ Is w' g [] ∧ w.heap.size ≤ g ∧ Below w.heap.size w w' := dnew_calls w
theorem add_is (g : Nat) (l m : List UInt8) (w : World) (h : Is w g l) (hl : l.length ≤ 140737488355328) (hm : m.length ≤ 140737488355328) :
    Calls Tryd.prog 49 #[.pointer (some ⟨g, 0, none⟩), .string (B m)] w fun e w' => e = .returned (.int .i64 (l ++ m).length) ∧ Is w' g (l ++ m) ∧ Bf w.heap.size g w w' := by
  refine (dadd_calls g _ _ (B m) l.length w h (by rw [B_size, List.length_drop]; omega) (by rw [B_size]; exact hm) hl).mono ?_
  rintro e w' ⟨rfl, hD, hF⟩
  refine ⟨by rw [B_size, List.length_append], ?_, hF⟩
  unfold Is
  rw [B_append, B_size, B_size] at hD
  rw [← fd_more]
  have e2 : (B (l.drop (64 * (l.length / 64)) ++ m)).extract (64 * ((l.drop (64 * (l.length / 64)) ++ m).length / 64)) (l.drop (64 * (l.length / 64)) ++ m).length = B ((l ++ m).drop (64 * ((l.length + m.length) / 64))) := by
    have := rest_eq (l.drop (64 * (l.length / 64)) ++ m)
    rw [B_size] at this
    rw [this]
    obtain ⟨a, b, hl', ha, hb, hbd, hat⟩ := parts l
    rw [← hbd]
    have hlm : l ++ m = a ++ (b ++ m) := by rw [← List.append_assoc, ← hl']
    have hN : 64 * ((l.length + m.length) / 64) = a.length + 64 * ((b ++ m).length / 64) := by
      rw [List.length_append, ha]
      omega
    rw [hN, hlm, List.drop_length_add_append]
  rw [e2] at hD
  simp only [List.length_append] at hD ⊢
  exact hD
theorem sum_is (g : Nat) (l : List UInt8) (w : World) (h : Is w g l) (hl : l.length ≤ 140737488355328) :
    Calls Tryd.prog 50 #[.pointer (some ⟨g, 0, none⟩)] w fun e w' => e = .returned (.string (B (SHA l))) ∧ Below w.heap.size w w' := by
  refine (dsum_calls g _ _ l.length w h (by rw [B_size, List.length_drop]; omega) hl).mono ?_
  rintro e w' ⟨rfl, hB⟩
  refine ⟨?_, hB⟩
  rw [← sha_rest l]
  rfl
set_option maxRecDepth 100000 in
set_option maxHeartbeats 400000 in
theorem dsum_all (l : List UInt8) (hl : l.length ≤ 140737488355328) (w : World) : Calls Tryd.prog 29 #[.string (B l)] w fun e w' => e = .returned (.string (B (SHA l))) ∧ Below w.heap.size w w' := by
  generalize hbl : B l = s
  have HBL := Lib.hid hbl
  clear hbl
  go_enter Tryd.func29, Tryd.ntmps29
  go_wp2_with fail
  refine Calls.mono (new_is w) ?_
  rintro e w1 ⟨g, rfl, hI, hg, hB⟩
  have HI := Aside0.mk hI
  have HB := Aside0.mk hB
  clear hI hB
  go_wp2_with fail
  rw [← HBL.out]
  refine Calls.mono (add_is g [] l w1 HI.out (Nat.zero_le _) hl) ?_
  rintro e w2 ⟨rfl, hI, hF⟩
  have HI := Aside0.mk hI
  have HB := Aside0.mk (HB.out.trans (hF.below HB.out.size hg))
  clear hI hF
  go_wp2_with fail
  refine Calls.mono (sum_is g l w2 HI.out hl) ?_
  rintro e w3 ⟨rfl, hB3⟩
  have HB := Aside0.mk (below2 HB.out HB.out.size hB3)
  clear hB3
  go_wp2_with fail
  go_ret
  exact ⟨rfl, HB.out⟩
theorem refsum_all (l : List UInt8) (hl : l.length ≤ 17592186044416) (w : World) : Calls Tryd.prog 40 #[.string (B l)] w fun e w' => e = .returned (.string (B (SHA l))) ∧ Below w.heap.size w w' := by
  have h64 := fill2_64 (B l) (B l).size
  refine refsum_walk (B l) (by rw [B_size]; exact hl) (fill2 (B l) (B l).size).length ((fill2 (B l) (B l).size).length / 64) (fill2 (B l) (B l).size) rfl rfl h64 H8 rfl (SHA l) ?_ w
  rintro i rfl j rfl
  rw [B_size]
  rfl
end Go.Proofs.YtpgfafpjfdbjmaaDoor
end
section
namespace Go.Proofs.YtpgfafpjfdbjmaaDoor
open Go.RowKit Q Go.Proofs.YtpgfafpjfdbjmaaDoorW.PrintWords Go.Proofs.YtpgfafpjfdbjmaaDoorW.PrintLast Go.Proofs.YtpgfafpjfdbjmaaDoorW.PrintMore
def digest_Sum.f (a0 : ByteArray) : Option ByteArray := if a0.size ≤ 17592186044416 then some (B (SHA a0.data.toList)) else none
theorem digest_Sum.calls (a0 : ByteArray) (r : ByteArray) (w : World) (h : digest_Sum.f a0 = some r) :
    Calls Tryd.prog 29 #[.string a0] w fun e w' => e = .returned (.string r) ∧ Below w.heap.size w w' := by
  unfold digest_Sum.f at h
  split at h
  · rename_i hs
    obtain rfl := Option.some.inj h
    have := dsum_all a0.data.toList (by rw [size_data]; omega) w
    rw [B_eta] at this
    exact this
  · cases h
end Go.Proofs.YtpgfafpjfdbjmaaDoor
end
