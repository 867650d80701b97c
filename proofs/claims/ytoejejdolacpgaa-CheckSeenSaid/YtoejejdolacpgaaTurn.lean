/- Bytes of a text are turned within four that follow one another: the row in memory, and that a sealed text that was turned is none. -/
import Derived.Test.YtoejejdolacpgaaSeal
import Derived.Lib.ConvBytes
import Derived.WalkKit
namespace Go.Proofs.Ytoejejdolacpgaa
open Go.RowKit
/-- Block g of W begins with these bytes, and may be written there. -/
def Row (W : World) (g : Nat) (L : List UInt8) : Prop := ∀ j, j < L.length → W.cell? ⟨g, j, none⟩ = some (.int .u8 ((L.getD j 0).toNat : Int)) ∧ W.frozen? ⟨g, j, none⟩ = false
theorem row_of (W : World) (e : TypeId) (L : List UInt8) : Row (Lib.bytesWorld W e (B L)) W.heap.size L := by
  intro j hj
  refine ⟨?_, ?_⟩
  · have := Lib.bytesWorld_cell W e (B L) j (by rw [B_size]; exact hj)
    rwa [B_data] at this
  · have h := Lib.bytesWorld_at_new W e (B L)
    have hs : j < (Lib.bytesCells W e (B L)).size := by
      unfold Lib.bytesCells
      rw [Array.size_append, Array.size_map]
      have : (B L).data.size = L.length := by simp [B]
      omega
    simp [World.frozen?, h]
    omega
theorem row_set {W : World} {g : Nat} {L : List UInt8} (h : Row W g L) (i : Nat) (hi : i < L.length) (c : UInt8) : Row (W.setCell ⟨g, i, none⟩ (.int .u8 (c.toNat : Int))) g (L.set i c) := by
  intro j hj
  rw [List.length_set] at hj
  refine ⟨?_, ?_⟩
  · by_cases e : i = j
    · subst e
      rw [World.cell?_setCell_same _ _ _ (h i hi).1]
      rw [List.getD_eq_getElem?_getD, List.getElem?_set_self hi]; rfl
    · have hne : (⟨g, i, none⟩ : Addr) ≠ ⟨g, j, none⟩ := by intro h; injection h; contradiction
      rw [show (W.setCell ⟨g, i, none⟩ (.int .u8 (c.toNat : Int))).cell? ⟨g, j, none⟩ = W.cell? ⟨g, j, none⟩ from World.cell?_setCell_other W _ _ _ hne, (h j hj).1]
      rw [List.getD_eq_getElem?_getD, List.getD_eq_getElem?_getD, List.getElem?_set_ne e]
  · rw [World.frozen?_setCell]; exact (h j hj).2
theorem below_bytes {w W : World} (h : Below w.heap.size w W) (e : TypeId) (s : ByteArray) : Below w.heap.size w (Lib.bytesWorld W e s) := by
  refine h.trans ⟨rfl, rfl, rfl, ?_, fun i hi => ?_⟩
  · rw [Lib.bytesWorld_size]; omega
  · rw [Lib.bytesWorld_at_old _ _ _ _ (by have := h.size; omega)]
/-- The first j of four bytes are turned. -/
def turn (T : List UInt8) (k : Nat) (v : Nat) : Nat → List UInt8
  | 0 => T
  | j + 1 => (turn T k v j).set (k + j) ((turn T k v j).getD (k + j) 0 ^^^ UInt8.ofNat (v / 2 ^ (8 * j) % 256))
theorem turn_len (T : List UInt8) (k v j : Nat) : (turn T k v j).length = T.length := by
  induction j with
  | zero => rfl
  | succ j ih => rw [turn, List.length_set, ih]
theorem turn_step (T : List UInt8) (k v j : Nat) : Go.bits .xor .u8 (((turn T k v j)[k + j]?.getD 0).toNat : Int) ((v : Int) / 2 ^ (8 * j) % 256) = (((turn T k v j).getD (k + j) 0 ^^^ UInt8.ofNat (v / 2 ^ (8 * j) % 256)).toNat : Int) := by
  rw [← xor_u8, List.getD_eq_getElem?_getD, UInt8.toNat_ofNat_of_lt' (Nat.mod_lt _ (by decide))]
  simp
theorem row_turn {W : World} {g : Nat} {T : List UInt8} {k v j : Nat} (h : Row W g (turn T k v j)) (hj : k + j < T.length) :
    Row (W.setCell ⟨g, k + j, none⟩ (.int .u8 (Go.bits .xor .u8 (((turn T k v j)[k + j]?.getD 0).toNat : Int) ((v : Int) / 2 ^ (8 * j) % 256)))) g (turn T k v (j + 1)) := by
  rw [turn_step]
  exact row_set h (k + j) (by rw [turn_len]; exact hj) _
/-- The row, as a string. -/
theorem row_string {P : Program} {W : World} {g cap : Nat} {L : List UInt8} (h : Row W g L) (n : Nat) (hn : L.length = n) (src e dst : TypeId) (hs : P.underlying src = some (.slice e)) (he : P.underlying e = some (.int .u8)) (hd : P.underlying dst = some .string) :
    (convert src dst (.slice (some ⟨g, 0, none⟩) n cap)).run P W = .ok (.string (B L)) W := by
  have := run_convert_bytes_arg (P := P) W src e hs he g 0 n cap (L.map fun c => (c.toNat : Int)) (by rw [List.length_map, hn]) (fun i hi => by
    rw [Nat.zero_add, (h i (by omega)).1]
    congr 2
    rw [List.getD_eq_getElem?_getD, List.getD_eq_getElem?_getD, List.getElem?_map, List.getElem?_eq_getElem (by omega)]
    rfl) dst hd
  rwa [strOfNums_bytes] at this
/-- What they are turned by, as a text. -/
def mask (n k : Nat) (v : BitVec 32) : List UInt8 := List.replicate k 0 ++ w4 v ++ List.replicate (n - k - 4) 0
theorem mask_len (n k : Nat) (v : BitVec 32) (h : k + 4 ≤ n) : (mask n k v).length = n := by
  unfold mask
  rw [List.length_append, List.length_append, List.length_replicate, List.length_replicate, w4_len]; omega
theorem split4 (T : List UInt8) (k : Nat) (h : k + 4 ≤ T.length) : ∃ a b c d, T = T.take k ++ [a, b, c, d] ++ T.drop (k + 4) := by
  have h0 : T.drop k = T[k] :: T[k + 1] :: T[k + 2] :: T[k + 3] :: T.drop (k + 4) := by
    rw [List.drop_eq_getElem_cons (by omega), List.drop_eq_getElem_cons (by omega), List.drop_eq_getElem_cons (by omega), List.drop_eq_getElem_cons (by omega)]
  refine ⟨T[k], T[k + 1], T[k + 2], T[k + 3], ?_⟩
  conv => lhs; rw [← List.take_append_drop k T, h0]
  simp
theorem xor_zero8 (a : UInt8) : a ^^^ 0 = a := by simp
theorem zx_zeros (l : List UInt8) : zx l (List.replicate l.length 0) = l := by
  induction l with
  | nil => rfl
  | cons a l ih =>
    show (a ^^^ 0) :: zx l (List.replicate l.length 0) = a :: l
    rw [ih, xor_zero8]
theorem zx_append (a b c d : List UInt8) (h : a.length = c.length) : zx (a ++ b) (c ++ d) = zx a c ++ zx b d := by
  unfold zx
  rw [List.zipWith_append h]
theorem turn_eq (T : List UInt8) (k : Nat) (v : BitVec 32) (h : k + 4 ≤ T.length) : turn T k v.toNat 4 = zx T (mask T.length k v) := by
  obtain ⟨a, b, c, d, hT⟩ := split4 T k h
  have hp : (T.take k).length = k := by rw [List.length_take]; omega
  have hd : (T.drop (k + 4)).length = T.length - k - 4 := by rw [List.length_drop]; omega
  have hz : zx T (mask T.length k v) = T.take k ++ [a ^^^ UInt8.ofNat (v.toNat % 256), b ^^^ UInt8.ofNat (v.toNat / 256 % 256), c ^^^ UInt8.ofNat (v.toNat / 65536 % 256), d ^^^ UInt8.ofNat (v.toNat / 16777216 % 256)] ++ T.drop (k + 4) := by
    conv => lhs; lhs; rw [hT]
    unfold mask
    rw [zx_append _ _ _ _ (by rw [List.length_append, List.length_append, List.length_replicate, hp, w4_len]; rfl), zx_append _ _ _ _ (by rw [List.length_replicate, hp])]
    have e1 := zx_zeros (T.take k)
    rw [hp] at e1
    have e2 := zx_zeros (T.drop (k + 4))
    rw [hd] at e2
    rw [e1, e2]
    rfl
  rw [hz]
  generalize T.take k = P at hp hT ⊢
  generalize T.drop (k + 4) = Q at hT ⊢
  subst hT
  subst hp
  have g0 : ∀ (P Q : List UInt8) (x y z u : UInt8), (P ++ [x, y, z, u] ++ Q).getD (P.length + 0) 0 = x := by intro P Q x y z u; simp [List.getD_eq_getElem?_getD]
  have g1 : ∀ (P Q : List UInt8) (x y z u : UInt8), (P ++ [x, y, z, u] ++ Q).getD (P.length + 1) 0 = y := by intro P Q x y z u; simp [List.getD_eq_getElem?_getD]
  have g2 : ∀ (P Q : List UInt8) (x y z u : UInt8), (P ++ [x, y, z, u] ++ Q).getD (P.length + 2) 0 = z := by intro P Q x y z u; simp [List.getD_eq_getElem?_getD]
  have g3 : ∀ (P Q : List UInt8) (x y z u : UInt8), (P ++ [x, y, z, u] ++ Q).getD (P.length + 3) 0 = u := by intro P Q x y z u; simp [List.getD_eq_getElem?_getD]
  have s0 : ∀ (P Q : List UInt8) (x y z u r : UInt8), (P ++ [x, y, z, u] ++ Q).set (P.length + 0) r = P ++ [r, y, z, u] ++ Q := by intro P Q x y z u r; simp
  have s1 : ∀ (P Q : List UInt8) (x y z u r : UInt8), (P ++ [x, y, z, u] ++ Q).set (P.length + 1) r = P ++ [x, r, z, u] ++ Q := by intro P Q x y z u r; simp
  have s2 : ∀ (P Q : List UInt8) (x y z u r : UInt8), (P ++ [x, y, z, u] ++ Q).set (P.length + 2) r = P ++ [x, y, r, u] ++ Q := by intro P Q x y z u r; simp
  have s3 : ∀ (P Q : List UInt8) (x y z u r : UInt8), (P ++ [x, y, z, u] ++ Q).set (P.length + 3) r = P ++ [x, y, z, r] ++ Q := by intro P Q x y z u r; simp
  simp only [turn]
  rw [g0, s0, g1, s1, g2, s2, g3, s3]
  simp
/-- A sealed text that was turned, within four bytes, is none. -/
theorem turned_bad (T : List UInt8) (k : Nat) (v : BitVec 32) (h : k + 4 ≤ T.length) (hv : v ≠ 0#32) (hs : sealed T) : ¬ sealed (turn T k v.toNat 4) := by
  intro h2
  rw [turn_eq T k v h] at h2
  have hl : (zx T (mask T.length k v)).length = T.length := by
    unfold zx; rw [List.length_zipWith, mask_len _ _ _ h]; omega
  have r1 := (sealed_iff T hs.1).1 hs
  have r2 := (sealed_iff _ (by rw [hl]; exact hs.1)).1 h2
  have e : reg (0xFFFFFFFF#32 ^^^ 0#32) (zx T (mask T.length k v)) = reg 0xFFFFFFFF#32 T ^^^ reg 0#32 (mask T.length k v) := reg_xor _ _ _ _ (mask_len _ _ _ h).symm
  rw [BitVec.xor_zero, r1, r2] at e
  have e2 : reg 0#32 (mask T.length k v) = 0#32 := by
    have := congrArg (fun z => Sn 32 0xFFFFFFFF#32 ^^^ z) e
    simp only [← BitVec.xor_assoc, BitVec.xor_self, BitVec.zero_xor] at this
    exact this.symm
  unfold mask at e2
  rw [reg_append, reg_append, reg_zeros _ (by intro c hc; exact (List.mem_replicate.1 hc).2), reg_w4, BitVec.zero_xor] at e2
  exact reg_ne _ _ (fun h => hv (Sn_inj 32 (h.trans (Sn_zero 32).symm))) (by intro c hc; exact (List.mem_replicate.1 hc).2) e2
end Go.Proofs.Ytoejejdolacpgaa
