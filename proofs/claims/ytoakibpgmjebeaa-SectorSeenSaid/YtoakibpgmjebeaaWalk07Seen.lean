/- Bytes of a text are turned within four that follow one another: the row in memory, and that a sealed text that was turned is none. -/
import Derived.Test.YtoakibpgmjebeaaSeal
import Derived.Lib.ConvBytes
import Derived.WalkKit
import Derived.Test.YtoakibpgmjebeaaRefSecRead
import Derived.WalkSpells
import Derived.WalkLawsBesides
import Derived.Lib.Hide
import Derived.Test.YtoakibpgmjebeaaLive07
namespace Go.Proofs.Ytoakibpgmjebeaa
open Go.RowKit
/-- Block g of W begins with these bytes, and may be written there. -/
def Row (W : World) (g : Nat) (L : List UInt8) : Prop := ∀ j, j < L.length → W.cell? ⟨g, j, none⟩ = some (.int .u8 ((L.getD j 0).toNat : Int)) ∧ W.frozen? ⟨g, j, none⟩ = false
theorem row_of (W : World) (e : TypeId) (L : List UInt8) : Row (Lib.bytesWorld W e (B L)) W.heap.size L := by
  intro j hj
  refine ⟨?_, ?_⟩
  · have := Lib.bytesWorld_cell W e (B L) j (by rw [B_size]; exact hj)
    rwa [B_data] at this
  · have h := Lib.bytesWorld_at_new W e (B L)
    have hs : j < (Lib.bytesCells W e (B L)).size := by
      unfold Lib.bytesCells
      rw [Array.size_append, Array.size_map]
      have : (B L).data.size = L.length := by simp [B]
      omega
    simp [World.frozen?, h]
    omega
theorem row_set {W : World} {g : Nat} {L : List UInt8} (h : Row W g L) (i : Nat) (hi : i < L.length) (c : UInt8) : Row (W.setCell ⟨g, i, none⟩ (.int .u8 (c.toNat : Int))) g (L.set i c) := by
  intro j hj
  rw [List.length_set] at hj
  refine ⟨?_, ?_⟩
  · by_cases e : i = j
    · subst e
      rw [World.cell?_setCell_same _ _ _ (h i hi).1]
      rw [List.getD_eq_getElem?_getD, List.getElem?_set_self hi]; rfl
    · have hne : (⟨g, i, none⟩ : Addr) ≠ ⟨g, j, none⟩ := by intro h; injection h; contradiction
      rw [show (W.setCell ⟨g, i, none⟩ (.int .u8 (c.toNat : Int))).cell? ⟨g, j, none⟩ = W.cell? ⟨g, j, none⟩ from World.cell?_setCell_other W _ _ _ hne, (h j hj).1]
      rw [List.getD_eq_getElem?_getD, List.getD_eq_getElem?_getD, List.getElem?_set_ne e]
  · rw [World.frozen?_setCell]; exact (h j hj).2
theorem below_bytes {w W : World} (h : Below w.heap.size w W) (e : TypeId) (s : ByteArray) : Below w.heap.size w (Lib.bytesWorld W e s) := by
  refine h.trans ⟨rfl, rfl, rfl, ?_, fun i hi => ?_⟩
  · rw [Lib.bytesWorld_size]; omega
  · rw [Lib.bytesWorld_at_old _ _ _ _ (by have := h.size; omega)]
/-- The first j of four bytes are turned. -/
def turn (T : List UInt8) (k : Nat) (v : Nat) : Nat → List UInt8
  | 0 => T
  | j + 1 => (turn T k v j).set (k + j) ((turn T k v j).getD (k + j) 0 ^^^ UInt8.ofNat (v / 2 ^ (8 * j) % 256))
theorem turn_len (T : List UInt8) (k v j : Nat) : (turn T k v j).length = T.length := by
  induction j with
  | zero => rfl
  | succ j ih => rw [turn, List.length_set, ih]
theorem turn_step (T : List UInt8) (k v j : Nat) : Go.bits .xor .u8 (((turn T k v j)[k + j]?.getD 0).toNat : Int) ((v : Int) / 2 ^ (8 * j) % 256) = (((turn T k v j).getD (k + j) 0 ^^^ UInt8.ofNat (v / 2 ^ (8 * j) % 256)).toNat : Int) := by
  rw [← xor_u8, List.getD_eq_getElem?_getD, UInt8.toNat_ofNat_of_lt' (Nat.mod_lt _ (by decide))]
  simp
theorem row_turn {W : World} {g : Nat} {T : List UInt8} {k v j : Nat} (h : Row W g (turn T k v j)) (hj : k + j < T.length) :
    Row (W.setCell ⟨g, k + j, none⟩ (.int .u8 (Go.bits .xor .u8 (((turn T k v j)[k + j]?.getD 0).toNat : Int) ((v : Int) / 2 ^ (8 * j) % 256)))) g (turn T k v (j + 1)) := by
  rw [turn_step]
  exact row_set h (k + j) (by rw [turn_len]; exact hj) _
/-- The row, as a string. -/
theorem row_string {P : Program} {W : World} {g cap : Nat} {L : List UInt8} (h : Row W g L) (n : Nat) (hn : L.length = n) (src e dst : TypeId) (hs : P.underlying src = some (.slice e)) (he : P.underlying e = some (.int .u8)) (hd : P.underlying dst = some .string) :
    (convert src dst (.slice (some ⟨g, 0, none⟩) n cap)).run P W = .ok (.string (B L)) W := by
  have := run_convert_bytes_arg (P := P) W src e hs he g 0 n cap (L.map fun c => (c.toNat : Int)) (by rw [List.length_map, hn]) (fun i hi => by
    rw [Nat.zero_add, (h i (by omega)).1]
    congr 2
    rw [List.getD_eq_getElem?_getD, List.getD_eq_getElem?_getD, List.getElem?_map, List.getElem?_eq_getElem (by omega)]
    rfl) dst hd
  rwa [strOfNums_bytes] at this
/-- What they are turned by, as a text. -/
def mask (n k : Nat) (v : BitVec 32) : List UInt8 := List.replicate k 0 ++ w4 v ++ List.replicate (n - k - 4) 0
theorem mask_len (n k : Nat) (v : BitVec 32) (h : k + 4 ≤ n) : (mask n k v).length = n := by
  unfold mask
  rw [List.length_append, List.length_append, List.length_replicate, List.length_replicate, w4_len]; omega
theorem split4 (T : List UInt8) (k : Nat) (h : k + 4 ≤ T.length) : ∃ a b c d, T = T.take k ++ [a, b, c, d] ++ T.drop (k + 4) := by
  have h0 : T.drop k = T[k] :: T[k + 1] :: T[k + 2] :: T[k + 3] :: T.drop (k + 4) := by
    rw [List.drop_eq_getElem_cons (by omega), List.drop_eq_getElem_cons (by omega), List.drop_eq_getElem_cons (by omega), List.drop_eq_getElem_cons (by omega)]
  refine ⟨T[k], T[k + 1], T[k + 2], T[k + 3], ?_⟩
  conv => lhs; rw [← List.take_append_drop k T, h0]
  simp
theorem xor_zero8 (a : UInt8) : a ^^^ 0 = a := by simp
theorem zx_zeros (l : List UInt8) : zx l (List.replicate l.length 0) = l := by
  induction l with
  | nil => rfl
  | cons a l ih =>
    show (a ^^^ 0) :: zx l (List.replicate l.length 0) = a :: l
    rw [ih, xor_zero8]
theorem zx_append (a b c d : List UInt8) (h : a.length = c.length) : zx (a ++ b) (c ++ d) = zx a c ++ zx b d := by
  unfold zx
  rw [List.zipWith_append h]
theorem turn_eq (T : List UInt8) (k : Nat) (v : BitVec 32) (h : k + 4 ≤ T.length) : turn T k v.toNat 4 = zx T (mask T.length k v) := by
  obtain ⟨a, b, c, d, hT⟩ := split4 T k h
  have hp : (T.take k).length = k := by rw [List.length_take]; omega
  have hd : (T.drop (k + 4)).length = T.length - k - 4 := by rw [List.length_drop]; omega
  have hz : zx T (mask T.length k v) = T.take k ++ [a ^^^ UInt8.ofNat (v.toNat % 256), b ^^^ UInt8.ofNat (v.toNat / 256 % 256), c ^^^ UInt8.ofNat (v.toNat / 65536 % 256), d ^^^ UInt8.ofNat (v.toNat / 16777216 % 256)] ++ T.drop (k + 4) := by
    conv => lhs; lhs; rw [hT]
    unfold mask
    rw [zx_append _ _ _ _ (by rw [List.length_append, List.length_append, List.length_replicate, hp, w4_len]; rfl), zx_append _ _ _ _ (by rw [List.length_replicate, hp])]
    have e1 := zx_zeros (T.take k)
    rw [hp] at e1
    have e2 := zx_zeros (T.drop (k + 4))
    rw [hd] at e2
    rw [e1, e2]
    rfl
  rw [hz]
  generalize T.take k = P at hp hT ⊢
  generalize T.drop (k + 4) = Q at hT ⊢
  subst hT
  subst hp
  have g0 : ∀ (P Q : List UInt8) (x y z u : UInt8), (P ++ [x, y, z, u] ++ Q).getD (P.length + 0) 0 = x := by intro P Q x y z u; simp [List.getD_eq_getElem?_getD]
  have g1 : ∀ (P Q : List UInt8) (x y z u : UInt8), (P ++ [x, y, z, u] ++ Q).getD (P.length + 1) 0 = y := by intro P Q x y z u; simp [List.getD_eq_getElem?_getD]
  have g2 : ∀ (P Q : List UInt8) (x y z u : UInt8), (P ++ [x, y, z, u] ++ Q).getD (P.length + 2) 0 = z := by intro P Q x y z u; simp [List.getD_eq_getElem?_getD]
  have g3 : ∀ (P Q : List UInt8) (x y z u : UInt8), (P ++ [x, y, z, u] ++ Q).getD (P.length + 3) 0 = u := by intro P Q x y z u; simp [List.getD_eq_getElem?_getD]
  have s0 : ∀ (P Q : List UInt8) (x y z u r : UInt8), (P ++ [x, y, z, u] ++ Q).set (P.length + 0) r = P ++ [r, y, z, u] ++ Q := by intro P Q x y z u r; simp
  have s1 : ∀ (P Q : List UInt8) (x y z u r : UInt8), (P ++ [x, y, z, u] ++ Q).set (P.length + 1) r = P ++ [x, r, z, u] ++ Q := by intro P Q x y z u r; simp
  have s2 : ∀ (P Q : List UInt8) (x y z u r : UInt8), (P ++ [x, y, z, u] ++ Q).set (P.length + 2) r = P ++ [x, y, r, u] ++ Q := by intro P Q x y z u r; simp
  have s3 : ∀ (P Q : List UInt8) (x y z u r : UInt8), (P ++ [x, y, z, u] ++ Q).set (P.length + 3) r = P ++ [x, y, z, r] ++ Q := by intro P Q x y z u r; simp
  simp only [turn]
  rw [g0, s0, g1, s1, g2, s2, g3, s3]
  simp
/-- A sealed text that was turned, within four bytes, is none. -/
theorem turned_bad (T : List UInt8) (k : Nat) (v : BitVec 32) (h : k + 4 ≤ T.length) (hv : v ≠ 0#32) (hs : sealed T) : ¬ sealed (turn T k v.toNat 4) := by
  intro h2
  rw [turn_eq T k v h] at h2
  have hl : (zx T (mask T.length k v)).length = T.length := by
    unfold zx; rw [List.length_zipWith, mask_len _ _ _ h]; omega
  have r1 := (sealed_iff T hs.1).1 hs
  have r2 := (sealed_iff _ (by rw [hl]; exact hs.1)).1 h2
  have e : reg (0xFFFFFFFF#32 ^^^ 0#32) (zx T (mask T.length k v)) = reg 0xFFFFFFFF#32 T ^^^ reg 0#32 (mask T.length k v) := reg_xor _ _ _ _ (mask_len _ _ _ h).symm
  rw [BitVec.xor_zero, r1, r2] at e
  have e2 : reg 0#32 (mask T.length k v) = 0#32 := by
    have := congrArg (fun z => Sn 32 0xFFFFFFFF#32 ^^^ z) e
    simp only [← BitVec.xor_assoc, BitVec.xor_self, BitVec.zero_xor] at this
    exact this.symm
  unfold mask at e2
  rw [reg_append, reg_append, reg_zeros _ (by intro c hc; exact (List.mem_replicate.1 hc).2), reg_w4, BitVec.zero_xor] at e2
  exact reg_ne _ _ (fun h => hv (Sn_inj 32 (h.trans (Sn_zero 32).symm))) (by intro c hc; exact (List.mem_replicate.1 hc).2) e2
end Go.Proofs.Ytoakibpgmjebeaa
/-! SectorSeen: its walk, over the walk of live. -/
namespace Go.Proofs.Ytoakibpgmjebeaa
open Go.RowKit Q Go.Proofs.YtoakibpgmjebeaaW.PrintWords Go.Proofs.YtoakibpgmjebeaaW.PrintLast Go.Proofs.YtoakibpgmjebeaaW.PrintMore
/-- The call of live answers true. -/
def Lives : Prop := ∀ w : World, Calls Try.prog 10 #[] w fun e w' => e = .returned (.bool true) ∧ Below w.heap.size w w'
theorem own_calls (v g i d s : Int) (t : ByteArray) (w : World) : Calls Try.prog 12 #[.agg #[.int .i64 v, .int .i64 g, .int .i64 i, .int .i64 d, .int .i64 s, .string t]] w fun e w' => e = .returned (.agg #[.int .i64 v, .int .i64 g, .int .i64 i, .int .i64 d, .int .i64 s, .string t]) ∧ Below w.heap.size w w' :=
  sluicegatelaw07_own.calls v g i d s t v g i d s t w rfl
set_option maxRecDepth 100000 in
set_option maxHeartbeats 1000000 in
theorem seen07_in (LV : Lives) (v g i d s : Int) (t : ByteArray) (T : List UInt8) (k by_ : Nat) (w : World) (hs : t.size ≤ 200) (hv : ((by_ : Int) == 0) = false) (ht : secW v g i d s t = (B T, 0)) (h4 : T.length ≤ 200) (hk : k + 4 ≤ T.length) (_hv1 : by_ ≤ 4294967295) (hO : secR (turn T k by_ 4) = (0, 0, 0, 0, 0, B [], 5)) :
    Calls Try.prog 7 #[.agg #[.int .i64 v, .int .i64 g, .int .i64 i, .int .i64 d, .int .i64 s, .string t], .int .i64 (k : Int), .int .u32 (by_ : Int)] w fun e w' => e = .returned (.bool true) ∧ Below w.heap.size w w' := by
  have hu30 := Try.underlying30
  have hu25 := Try.underlying25
  have hu23 := Try.underlying23
  have hcv := fun (W : World) => Lib.run_convert_string_bytes (P := Try.prog) W 9 48 5 (B T) Try.underlying9 Try.underlying48 Try.underlying5
  have hts : (B T).size ≤ 200 := by rw [B_size]; exact h4
  have h4' : 4 ≤ (B T).size := by rw [B_size]; omega
  have hk' : k + 4 ≤ (B T).size := by rw [B_size]; omega
  have HL : Hid (T.length ≤ 200) := Lib.hid h4
  clear h4
  have HB : Aside0 (Below w.heap.size w (w.alloc (.cells #[.int .i64 v, .int .i64 g, .int .i64 i, .int .i64 d, .int .i64 s, .string t] 25))) := ⟨(Below.refl _ _).alloc (Nat.le_refl _) _⟩
  go_enter Try.func7, Try.ntmps7
  go_wp2_with fail
  refine (own_calls v g i d s t _).mono ?_
  rintro e w0 ⟨rfl, b0⟩
  replace HB := Aside0.mk (below2 HB.out HB.out.size b0)
  clear b0
  go_wp2_with fail
  refine (write_calls v g i d s t _).mono ?_
  rintro e w1 ⟨rfl, b1⟩
  rw [ht]
  replace HB := Aside0.mk (below2 HB.out HB.out.size b1)
  clear b1 ht
  go_wp2_with fail
  have HR := Aside0.mk (row_of w1 5 T)
  have GE := Aside0.mk HB.out.size
  replace HB := Aside0.mk (below_bytes HB.out 5 (B T))
  have HF := Aside0.mk hO
  clear hcv hO
  generalize Lib.bytesWorld w1 5 (B T) = W1 at HR HB ⊢
  generalize w1.heap.size = gg at HR GE ⊢
  generalize grownCap w1 (B T).size 0 5 = cp
  go_loopw [10] (fun n wr => ∃ j : Nat, j ≤ 4 ∧ n = .int .i64 j ∧ Aside0 (Row wr gg (turn T k by_ j)) ∧ Aside0 (Below w.heap.size w wr)) (fun n _ => 4 - (intOf n).toNat)
  case atStart => exact ⟨0, by omega, rfl, HR, HB⟩
  case round =>
    clear HR HB
    obtain ⟨j, hj, rfl, HR, HB⟩ := hrel
    by_cases hlt : j < 4
    · have hc := HR.out (k + j) (by rw [turn_len]; omega)
      go_wp2_with fail
      go_roundw
      case rel => exact ⟨j + 1, by omega, by go_num, ⟨row_turn HR.out (by omega)⟩, ⟨HB.out.setCell GE.out _⟩⟩
      case measure => simp [intOf]; omega
    · obtain rfl : j = 4 := by omega
      have hst := row_string (P := Try.prog) (cap := cp) HR.out (B T).size (by rw [turn_len, B_size]) 48 5 9 Try.underlying48 Try.underlying5 Try.underlying9
      go_wp2_with fail
      clear hst
      refine (read_calls (turn T k by_ 4) (by rw [turn_len]; exact Nat.le_trans HL.out (by decide)) wr).mono ?_
      rintro e w3 ⟨rfl, b3⟩
      rw [HF.out]
      replace HB := Aside0.mk (below_alloc (below2 HB.out HB.out.size b3) (.cells #[.int .i64 0, .int .i64 0, .int .i64 0, .int .i64 0, .int .i64 0, .string (B [])] 30))
      clear b3
      have hb0 : (B []).toList = [] := by rw [B_toList]
      go_wp2_with fail
      refine (LV _).mono ?_
      rintro e w4 ⟨rfl, b4⟩
      go_wp2_with fail
      go_ret
      exact ⟨rfl, below2 HB.out HB.out.size b4⟩
set_option maxRecDepth 100000 in
set_option maxHeartbeats 1000000 in
theorem seen07_out (LV : Lives) (v g i d s : Int) (t : ByteArray) (k by_ : Int) (w : World) (h : (t.size : Int) > 200 ∨ by_ = 0) :
    Calls Try.prog 7 #[.agg #[.int .i64 v, .int .i64 g, .int .i64 i, .int .i64 d, .int .i64 s, .string t], .int .i64 k, .int .u32 by_] w fun e w' => e = .returned (.bool true) ∧ Below w.heap.size w w' := by
  have hu30 := Try.underlying30
  have hu25 := Try.underlying25
  have hu23 := Try.underlying23
  have HB : Aside0 (Below w.heap.size w (w.alloc (.cells #[.int .i64 v, .int .i64 g, .int .i64 i, .int .i64 d, .int .i64 s, .string t] 25))) := ⟨(Below.refl _ _).alloc (Nat.le_refl _) _⟩
  by_cases h1 : (t.size : Int) > 200
  · clear h
    go_enter Try.func7, Try.ntmps7
    go_wp2_with fail
    refine (LV _).mono ?_
    rintro e w4 ⟨rfl, b4⟩
    replace HB := Aside0.mk (below2 HB.out HB.out.size b4)
    go_wp2_with fail
    go_ret
    exact ⟨rfl, HB.out⟩
  · have h2 : by_ = 0 := by omega
    subst h2
    have h1' : (t.size : Int) ≤ 200 := by omega
    clear h h1
    go_enter Try.func7, Try.ntmps7
    go_wp2_with fail
    refine (LV _).mono ?_
    rintro e w4 ⟨rfl, b4⟩
    replace HB := Aside0.mk (below2 HB.out HB.out.size b4)
    go_wp2_with fail
    go_ret
    exact ⟨rfl, HB.out⟩
set_option maxRecDepth 100000 in
set_option maxHeartbeats 1000000 in
theorem seen07_off (LV : Lives) (v g i d s : Int) (t x : ByteArray) (y k by_ : Int) (w : World) (hs : t.size ≤ 200) (hv : (by_ == 0) = false) (hx : x.size ≤ 200) (hw : secW v g i d s t = (x, y)) (hk : y ≠ 0 ∨ (y = 0 ∧ 4 ≤ x.size ∧ (k < 0 ∨ (x.size : Int) - 4 < k))) :
    Calls Try.prog 7 #[.agg #[.int .i64 v, .int .i64 g, .int .i64 i, .int .i64 d, .int .i64 s, .string t], .int .i64 k, .int .u32 by_] w fun e w' => e = .returned (.bool true) ∧ Below w.heap.size w w' := by
  have hu30 := Try.underlying30
  have hu25 := Try.underlying25
  have hu23 := Try.underlying23
  have HB : Aside0 (Below w.heap.size w (w.alloc (.cells #[.int .i64 v, .int .i64 g, .int .i64 i, .int .i64 d, .int .i64 s, .string t] 25))) := ⟨(Below.refl _ _).alloc (Nat.le_refl _) _⟩
  have ht := Lib.hid hw
  clear hw
  by_cases h1 : y = 0
  · subst h1
    have h3 : 4 ≤ x.size ∧ (k < 0 ∨ (x.size : Int) - 4 < k) := by
      rcases hk with h | h
      · exact absurd rfl h
      · exact h.2
    obtain ⟨h4, h5⟩ := h3
    clear hk
    by_cases h6 : k < 0
    · clear h5
      go_enter Try.func7, Try.ntmps7
      go_wp2_with fail
      refine (own_calls v g i d s t _).mono ?_
      rintro e w0 ⟨rfl, b0⟩
      replace HB := Aside0.mk (below2 HB.out HB.out.size b0)
      clear b0
      go_wp2_with fail
      refine (write_calls v g i d s t _).mono ?_
      rintro e w1 ⟨rfl, b1⟩
      rw [ht.out]
      replace HB := Aside0.mk (below2 HB.out HB.out.size b1)
      clear b1
      go_wp2_with fail
      refine (LV _).mono ?_
      rintro e w4 ⟨rfl, b4⟩
      replace HB := Aside0.mk (below2 HB.out HB.out.size b4)
      go_wp2_with fail
      go_ret
      exact ⟨rfl, HB.out⟩
    · have h7 : (x.size : Int) - 4 < k := by omega
      have h8 : 0 ≤ k := by omega
      clear h5 h6
      go_enter Try.func7, Try.ntmps7
      go_wp2_with fail
      refine (own_calls v g i d s t _).mono ?_
      rintro e w0 ⟨rfl, b0⟩
      replace HB := Aside0.mk (below2 HB.out HB.out.size b0)
      clear b0
      go_wp2_with fail
      refine (write_calls v g i d s t _).mono ?_
      rintro e w1 ⟨rfl, b1⟩
      rw [ht.out]
      replace HB := Aside0.mk (below2 HB.out HB.out.size b1)
      clear b1
      go_wp2_with fail
      refine (LV _).mono ?_
      rintro e w4 ⟨rfl, b4⟩
      replace HB := Aside0.mk (below2 HB.out HB.out.size b4)
      go_wp2_with fail
      go_ret
      exact ⟨rfl, HB.out⟩
  · have t1 : (y == 0) = false := by simpa using h1
    have t2 : (y != 0) = true := by simp [bne, t1]
    clear h1 hk
    go_enter Try.func7, Try.ntmps7
    go_wp2_with fail
    refine (own_calls v g i d s t _).mono ?_
    rintro e w0 ⟨rfl, b0⟩
    replace HB := Aside0.mk (below2 HB.out HB.out.size b0)
    clear b0
    go_wp2_with fail
    refine (write_calls v g i d s t _).mono ?_
    rintro e w1 ⟨rfl, b1⟩
    rw [ht.out]
    replace HB := Aside0.mk (below2 HB.out HB.out.size b1)
    clear b1
    go_wp2_with fail
    refine (LV _).mono ?_
    rintro e w4 ⟨rfl, b4⟩
    replace HB := Aside0.mk (below2 HB.out HB.out.size b4)
    go_wp2_with fail
    go_ret
    exact ⟨rfl, HB.out⟩
theorem seen07_walk (LV : Lives) (v g i d s : Int) (t : ByteArray) (k by_ : Int) (w : World) (hv : 0 ≤ by_ ∧ by_ ≤ 4294967295) :
    Calls Try.prog 7 #[.agg #[.int .i64 v, .int .i64 g, .int .i64 i, .int .i64 d, .int .i64 s, .string t], .int .i64 k, .int .u32 by_] w fun e w' => e = .returned (.bool true) ∧ Below w.heap.size w w' := by
  by_cases h : (t.size : Int) > 200 ∨ by_ = 0
  · exact seen07_out LV v g i d s t k by_ w h
  · have hs : t.size ≤ 200 := by omega
    have hb : (by_ == 0) = false := by rw [beq_eq_false_iff_ne]; omega
    by_cases e1 : (secW v g i d s t).2 = 0
    · obtain ⟨hc, hw⟩ := secW_ok e1
      obtain ⟨T, hT⟩ : ∃ T, sealL (secT v.toNat g.toNat i.toNat d.toNat s.toNat t.data.toList) = T := ⟨_, rfl⟩
      rw [hT] at hw
      have hlen : 4 ≤ T.length ∧ T.length ≤ 200 := by
        rw [← hT, sealL_len]
        have := secT_len v g i d s t.data.toList (chk_ok hc).1 (by rw [size_data]; exact (chk_ok hc).2)
        omega
      by_cases hk : k < 0 ∨ ((B T).size : Int) - 4 < k
      · exact seen07_off LV v g i d s t (B T) 0 k by_ w hs hb (by rw [B_size]; exact hlen.2) hw (.inr ⟨rfl, by rw [B_size]; exact hlen.1, hk⟩)
      · obtain ⟨k, rfl⟩ := Int.eq_ofNat_of_zero_le (a := k) (by omega)
        obtain ⟨n, rfl⟩ := Int.eq_ofNat_of_zero_le hv.1
        rw [B_size] at hk
        refine seen07_in LV v g i d s t T k n w hs hb hw hlen.2 (by omega) (by omega) ?_
        have hb := turned_bad T k (BitVec.ofNat 32 n) (by omega) (by intro e; have := congrArg BitVec.toNat e; rw [BitVec.toNat_ofNat] at this; simp at this; omega) (by rw [← hT]; exact sealed_seal _)
        rw [BitVec.toNat_ofNat, Nat.mod_eq_of_lt (by omega)] at hb
        rcases openL_cases (turn T k n 4) with ⟨h4, _⟩ | ⟨_, _, e⟩ | ⟨u, hu, _⟩
        · rw [turn_len] at h4; omega
        · unfold secR
          rw [e, if_pos (by decide)]
        · exact absurd (by rw [hu]; exact sealed_seal u) hb
    · have hx : (secW v g i d s t).1.size ≤ 200 := by
        have : secW v g i d s t = (B [], chk v g i d s t.size) := by
          unfold secW at e1 ⊢
          split at e1
          · exact absurd rfl e1
          · rename_i h; exact if_neg h
        rw [this, B_size]
        decide
      exact seen07_off LV v g i d s t _ _ k by_ w hs hb hx rfl (.inl e1)
end Go.Proofs.Ytoakibpgmjebeaa
/-! SectorSeen: its walk. -/
namespace Go.Proofs.Ytoakibpgmjebeaa
open Go.RowKit Q
theorem sectorSeen_walk (a0_0 : Int) (a0_1 : Int) (a0_2 : Int) (a0_3 : Int) (a0_4 : Int) (a0_5 : ByteArray) (a1 : Int) (a2 : Int) (w : World) {P0 P1 P2 P3 P4 P5 P6 : Prop} (_ : P0) (_ : P1) (_ : P2) (_ : P3) (_ : P4) (_ : P5) (_ : P6) (hq2 : (Lit.int .u32 a2).wf = true) :
    Calls Try.prog 7 #[.agg #[.int .i64 a0_0, .int .i64 a0_1, .int .i64 a0_2, .int .i64 a0_3, .int .i64 a0_4, .string a0_5], .int .i64 a1, .int .u32 a2] w fun e w' => e = .returned (.bool true) ∧ Below w.heap.size w w' := by
  have hv : 0 ≤ a2 ∧ a2 ≤ 4294967295 := by
    simp [Lit.wf, IntKind.min, IntKind.max, IntKind.signed, IntKind.bits] at hq2
    omega
  exact seen07_walk live_calls a0_0 a0_1 a0_2 a0_3 a0_4 a0_5 a1 a2 w hv
end Go.Proofs.Ytoakibpgmjebeaa
