/- sluicegateref03.block: its walk. -/
import Derived.Test.YtaobnbmpeplefaaQBelow
import Derived.Test.YtaobnbmpeplefaaRefWords
import Derived.Test.YtaobnbmpeplefaaQx5
import Derived.Test.YtaobnbmpeplefaaRefFilled
namespace Go.Proofs.Ytaobnbmpeplefaa
open Go.RowKit Q Go.Proofs.YtaobnbmpeplefaaW.PrintWords Go.Proofs.YtaobnbmpeplefaaW.PrintLast Go.Proofs.YtaobnbmpeplefaaW.PrintMore
/-- A row of numbers that a call has made: where its cells lie. -/
theorem R_ints {k : IntKind} {e : Nat} {w : World} {base : Nat} {ok : Nat → Prop} {v : Value} {xs : List Int} (h : Kd.R (Kd.int k) e w base ok v xs) (h0 : xs ≠ []) :
    ∃ g cap, v = .slice (some ⟨g, 0, none⟩) xs.length cap ∧ xs.length ≤ cap ∧ base ≤ g ∧ g < w.heap.size ∧ ∀ j, j < xs.length → w.cell? ⟨g, j, none⟩ = some (.int k (xs.getD j 0)) := by
  obtain ⟨A, c, hv, hle, hrow⟩ := OwnRow.reads h.2
  subst hv
  have hpos : 0 < xs.length := List.length_pos_iff.2 h0
  obtain ⟨_, inner, hown, _⟩ := h
  rcases hown.2 with ⟨hv, _⟩ | ⟨g, cap, cur, hv, hb, hg, _⟩
  · simp only [Value.slice.injEq] at hv
    omega
  · simp only [Value.slice.injEq] at hv
    obtain ⟨rfl, _, rfl⟩ := hv
    refine ⟨g, c, rfl, hle, hb, (Array.getElem?_eq_some_iff.1 hg).1, fun j hj => ?_⟩
    obtain ⟨ad, had, hc⟩ := hrow.2.2 hpos
    simp only [Option.some.injEq] at had
    subst had
    obtain ⟨cs, _, hK, hcell⟩ := hc j xs[j] (List.getElem?_eq_getElem hj)
    have hcs : cs = [.int k xs[j]] := hK
    have := hcell 0 (.int k xs[j]) (by rw [hcs]; rfl)
    have hadd : (⟨g, 0, none⟩ : Addr).add (j * (Kd.int k).sz + 0) = ⟨g, j, none⟩ := by
      have : (Kd.int k).sz = 1 := rfl
      rw [this]
      unfold Addr.add; split <;> simp_all
    rw [hadd] at this
    rw [this, List.getD_eq_getElem?_getD, List.getElem?_eq_getElem hj]
    rfl
theorem K_f (i : Nat) (hi : i < 64) : sluicegateref03_K.f (i : Int) = some (KL.getD i 0) := by
  unfold sluicegateref03_K.f
  show (if 0 ≤ (i : Int) then (if (i : Int) < (KL.length : Int) then some (rd KL (i : Int)) else none) else none) = _
  rw [KL_len, if_pos (by omega), if_pos (by omega)]
  unfold rd
  rw [show ((i : Int)).toNat = i by omega]
theorem K_q (i : Nat) (hi : i < 64) (w : World) : Calls Try.prog 26 #[.int .i64 (i : Int)] w fun e w'' => e = .returned (.int .u32 (KL.getD i 0)) ∧ Below w.heap.size w w'' :=
  sluicegateref03_K.calls (i : Int) _ w (K_f i hi)
theorem rot_q (x n : Int) (h0 : 0 ≤ n) (h1 : n ≤ 32) (w : World) : Calls Try.prog 25 #[.int .u32 x, .int .u64 n] w fun e w'' => e = .returned (.int .u32 (rr x n)) ∧ Below w.heap.size w w'' := by
  refine (sluicegateref03_rot.calls x n _ w (rot_f x n h0 h1)).mono ?_
  rintro e w' ⟨rfl, hd⟩
  exact ⟨rfl, hd.below⟩
/-- Block g holds eight words at its begin. -/
structure W8 (w : World) (g : Nat) (x : V8) : Prop where
  lt : g < w.heap.size
  c0 : w.cell? ⟨g, 0, none⟩ = some (.int .u32 x.a)
  c1 : w.cell? ⟨g, 1, none⟩ = some (.int .u32 x.b)
  c2 : w.cell? ⟨g, 2, none⟩ = some (.int .u32 x.c)
  c3 : w.cell? ⟨g, 3, none⟩ = some (.int .u32 x.d)
  c4 : w.cell? ⟨g, 4, none⟩ = some (.int .u32 x.e)
  c5 : w.cell? ⟨g, 5, none⟩ = some (.int .u32 x.f)
  c6 : w.cell? ⟨g, 6, none⟩ = some (.int .u32 x.g)
  c7 : w.cell? ⟨g, 7, none⟩ = some (.int .u32 x.h)
theorem W8.keep {w w' : World} {g : Nat} {x : V8} (h : W8 w g x) (hb : Below w.heap.size w w') : W8 w' g x :=
  ⟨Nat.lt_of_lt_of_le h.lt hb.size, (hb.cell h.lt).trans h.c0, (hb.cell h.lt).trans h.c1, (hb.cell h.lt).trans h.c2, (hb.cell h.lt).trans h.c3, (hb.cell h.lt).trans h.c4, (hb.cell h.lt).trans h.c5, (hb.cell h.lt).trans h.c6, (hb.cell h.lt).trans h.c7⟩
theorem W8.at {w : World} {g : Nat} {x : V8} (h : W8 w g x) (j : Nat) (v : Value) (hj : (x.cells)[j]? = some v) : w.cell? ⟨g, j, none⟩ = some v := by
  match j, hj with
  | 0, hj => exact h.c0.trans hj
  | 1, hj => exact h.c1.trans hj
  | 2, hj => exact h.c2.trans hj
  | 3, hj => exact h.c3.trans hj
  | 4, hj => exact h.c4.trans hj
  | 5, hj => exact h.c5.trans hj
  | 6, hj => exact h.c6.trans hj
  | 7, hj => exact h.c7.trans hj
  | j + 8, hj => simp [V8.cells] at hj
/-- A row of numbers in block g. -/
structure RowI (w : World) (g : Nat) (l : List Int) : Prop where
  lt : g < w.heap.size
  at' : ∀ j, j < l.length → w.cell? ⟨g, j, none⟩ = some (.int .u32 (l.getD j 0))
theorem RowI.keep {w w' : World} {g : Nat} {l : List Int} (h : RowI w g l) (hb : Below w.heap.size w w') : RowI w' g l :=
  ⟨Nat.lt_of_lt_of_le h.lt hb.size, fun j hj => (hb.cell h.lt).trans (h.at' j hj)⟩
theorem C_bytes {w : World} {g off : Nat} {l : List UInt8} (hl : l.length ≤ 9223372036854775807) (hc : ∀ j x, l[j]? = some x → w.cell? ⟨g, off + j, none⟩ = some (.int .u8 (x.toNat : Int))) : Kd.C (Kd.int .u8) w (some ⟨g, off, none⟩) (numsB l).length (numsB l) := by
  refine ⟨rfl, by unfold numsB; rw [List.length_map]; exact hl, fun _ => ⟨_, rfl, fun j p hp => ⟨[.int .u8 p], rfl, rfl, fun i u hu => ?_⟩⟩⟩
  match i, hu with
  | 0, hu =>
    simp only [List.getElem?_cons_zero, Option.some.injEq] at hu
    subst hu
    have hadd : (⟨g, off, none⟩ : Addr).add (j * (Kd.int .u8).sz + 0) = ⟨g, off + j, none⟩ := by
      have : (Kd.int .u8).sz = 1 := rfl
      rw [this]
      unfold Addr.add; split <;> simp_all
    rw [hadd]
    unfold numsB at hp
    rw [List.getElem?_map, Option.map_eq_some_iff] at hp
    obtain ⟨x, hx, rfl⟩ := hp
    exact hc j x hx
  | i + 1, hu => simp at hu
theorem info34 : ∃ i, Try.prog.info? 34 = some i ∧ i.zero = some (.int .u32 0) ∧ i.size = 1 ∧ i.bytes = 4 := info_parts (by kernel_rfl)
theorem W8.get {w : World} {g : Nat} {x : V8} (h : W8 w g x) (j : Nat) (hj : j < 8) : w.cell? ⟨g, j, none⟩ = some (.int .u32 (x.l.getD j 0)) := by
  match j, hj with
  | 0, _ => exact h.c0
  | 1, _ => exact h.c1
  | 2, _ => exact h.c2
  | 3, _ => exact h.c3
  | 4, _ => exact h.c4
  | 5, _ => exact h.c5
  | 6, _ => exact h.c6
  | 7, _ => exact h.c7
theorem W8.of {w : World} {g : Nat} {T : TypeId} (x : V8) (h : Row w g T x.l) : W8 w g x :=
  ⟨h.lt, h.cell 0 (by simp [V8.l]), h.cell 1 (by simp [V8.l]), h.cell 2 (by simp [V8.l]), h.cell 3 (by simp [V8.l]), h.cell 4 (by simp [V8.l]), h.cell 5 (by simp [V8.l]), h.cell 6 (by simp [V8.l]), h.cell 7 (by simp [V8.l])⟩
theorem W8.other {w : World} {g g' : Nat} {x : V8} (h : W8 w g x) (hne : g ≠ g') (i : Nat) (v : Value) : W8 (w.setCell ⟨g', i, none⟩ v) g x := by
  have hb : (w.setCell ⟨g', i, none⟩ v).heap[g]? = w.heap[g]? := Below.heap_setCell _ _ _ _ (fun e => hne e)
  have hc : ∀ k, (w.setCell ⟨g', i, none⟩ v).cell? ⟨g, k, none⟩ = w.cell? ⟨g, k, none⟩ := fun k => World.cell?_of_block hb
  exact ⟨by simp [World.setCell]; exact h.lt, (hc _).trans h.c0, (hc _).trans h.c1, (hc _).trans h.c2, (hc _).trans h.c3, (hc _).trans h.c4, (hc _).trans h.c5, (hc _).trans h.c6, (hc _).trans h.c7⟩
/-- The bit identities of a round. -/
theorem bits_bv (op : BitVec 32 → BitVec 32 → BitVec 32) (a b : Int) : (IntKind.u32.wrap ((op (BitVec.ofInt 32 a) (BitVec.ofInt 32 b)).toNat : Int)) = ((op (BitVec.ofInt 32 a) (BitVec.ofInt 32 b)).toNat : Int) := by
  rw [IntKind.wrap_u32]
  have := (op (BitVec.ofInt 32 a) (BitVec.ofInt 32 b)).isLt
  omega
theorem ofInt_toNat (x : BitVec 32) : BitVec.ofInt 32 (x.toNat : Int) = x := by
  rw [BitVec.ofInt_natCast, BitVec.ofNat_toNat, BitVec.setWidth_eq]
theorem and_bv (a b : Int) : Go.bits .and .u32 a b = ((BitVec.ofInt 32 a &&& BitVec.ofInt 32 b).toNat : Int) := bits_bv (· &&& ·) a b
theorem or_bv (a b : Int) : Go.bits .or .u32 a b = ((BitVec.ofInt 32 a ||| BitVec.ofInt 32 b).toNat : Int) := bits_bv (· ||| ·) a b
theorem xor_bv (a b : Int) : Go.bits .xor .u32 a b = ((BitVec.ofInt 32 a ^^^ BitVec.ofInt 32 b).toNat : Int) := bits_bv (· ^^^ ·) a b
theorem ch_eq (e f g : Int) : Go.bits .xor .u32 (Go.bits .and .u32 e f) (Go.bits .and .u32 (Go.bits .xor .u32 4294967295 e) g) = Go.bits .xor .u32 g (Go.bits .and .u32 e (Go.bits .xor .u32 f g)) := by
  simp only [and_bv, xor_bv, ofInt_toNat]
  congr 2
  generalize BitVec.ofInt 32 e = e
  generalize BitVec.ofInt 32 f = f
  generalize BitVec.ofInt 32 g = g
  have h1 : BitVec.ofInt 32 4294967295 = BitVec.allOnes 32 := by decide
  rw [h1]
  apply BitVec.eq_of_getLsbD_eq
  intro i hi
  simp only [BitVec.getLsbD_xor, BitVec.getLsbD_and, BitVec.getLsbD_allOnes, hi, decide_true]
  cases e.getLsbD i <;> cases f.getLsbD i <;> cases g.getLsbD i <;> rfl
theorem maj_eq (a b c : Int) : Go.bits .xor .u32 (Go.bits .xor .u32 (Go.bits .and .u32 a b) (Go.bits .and .u32 a c)) (Go.bits .and .u32 b c) = Go.bits .or .u32 (Go.bits .and .u32 a b) (Go.bits .and .u32 c (Go.bits .or .u32 a b)) := by
  simp only [and_bv, xor_bv, or_bv, ofInt_toNat]
  congr 2
  generalize BitVec.ofInt 32 a = a
  generalize BitVec.ofInt 32 b = b
  generalize BitVec.ofInt 32 c = c
  apply BitVec.eq_of_getLsbD_eq
  intro i hi
  simp only [BitVec.getLsbD_xor, BitVec.getLsbD_and, BitVec.getLsbD_or]
  cases a.getLsbD i <;> cases b.getLsbD i <;> cases c.getLsbD i <;> rfl
theorem tt_ref (e f g h k w : Int) : ((h + Go.bits .xor .u32 (Go.bits .xor .u32 (rr e 6) (rr e 11)) (rr e 25) + Go.bits .xor .u32 (Go.bits .and .u32 e f) (Go.bits .and .u32 (Go.bits .xor .u32 4294967295 e) g) + k) % 4294967296 + w) % 4294967296 = tt e f g h k w := by
  rw [ch_eq]
  rfl
theorem uu_ref (a b c : Int) : (Go.bits .xor .u32 (Go.bits .xor .u32 (rr a 2) (rr a 13)) (rr a 22) + Go.bits .xor .u32 (Go.bits .xor .u32 (Go.bits .and .u32 a b) (Go.bits .and .u32 a c)) (Go.bits .and .u32 b c)) % 4294967296 = uu a b c := by
  rw [maj_eq]
  rfl
theorem ad_comm (x y : V8) : ad x.l y.l 8 = ad y.l x.l 8 := by
  have h : ∀ a b : Int, (a + b) % 4294967296 = (b + a) % 4294967296 := fun a b => by rw [Int.add_comm]
  show [(x.a + y.a) % 4294967296, (x.b + y.b) % 4294967296, (x.c + y.c) % 4294967296, (x.d + y.d) % 4294967296, (x.e + y.e) % 4294967296, (x.f + y.f) % 4294967296, (x.g + y.g) % 4294967296, (x.h + y.h) % 4294967296] = [(y.a + x.a) % 4294967296, (y.b + x.b) % 4294967296, (y.c + x.c) % 4294967296, (y.d + x.d) % 4294967296, (y.e + x.e) % 4294967296, (y.f + x.f) % 4294967296, (y.g + x.g) % 4294967296, (y.h + x.h) % 4294967296]
  rw [h x.a, h x.b, h x.c, h x.d, h x.e, h x.f, h x.g, h x.h]
set_option maxRecDepth 100000 in
set_option maxHeartbeats 1000000 in
theorem refblock_walk (ga gb ob cb : Nat) (x R : V8) (l : List UInt8) (hl : l.length = 64) (WL : List Int) (hwl : WL.length = 64) (kw : Nat) (hkw : sluicegateref03_words.f kw (numsB l) = some WL) (hres : ∀ i, i = 64 → v8 (ad x.l (cv x KL WL i).l 8) = R) (hcb : 64 ≤ cb) (w : World) (hst : W8 w ga x) (hga : ga < w.heap.size) (hb : ∀ j z, l[j]? = some z → w.cell? ⟨gb, ob + j, none⟩ = some (.int .u8 (z.toNat : Int))) :
    Calls Try.prog 18 #[.slice (some ⟨ga, 0, none⟩) 8 8, .slice (some ⟨gb, ob, none⟩) 64 cb] w fun e w' => ∃ g, e = .returned (.slice (some ⟨g, 0, none⟩) 8 8) ∧ W8 w' g R ∧ w.heap.size ≤ g ∧ Below w.heap.size w w' := by
  obtain ⟨i0, hi, hz0, hz1, hz2⟩ := info34
  have hnl : (numsB l).length = 64 := by unfold numsB; rw [List.length_map, hl]
  have HH := Lib.hid (sluicegateref03_words.calls kw _ cb _ _ w (C_bytes (by omega) hb) (by rw [hnl]; exact hcb) hkw)
  rw [hnl] at HH
  have HRES := Lib.hid hres
  have HST := Aside0.mk hst
  have HGA := Aside0.mk hga
  clear hst hnl hres hkw hb hl hcb hga
  go_enter Try.func18, Try.ntmps18
  go_wp2_with fail
  refine Calls.mono HH.out ?_
  clear HH
  rintro e w1 ⟨v0, rfl, hR, hB⟩
  obtain ⟨gw, cw, rfl, hcw, hgw, hgw2, hcells⟩ := R_ints hR (by intro h; rw [h] at hwl; cases hwl)
  rw [hwl] at hcw
  have HB := Aside0.mk hB
  have HR := Aside0.mk (⟨hgw2, hcells⟩ : RowI w1 gw WL)
  have HST := Aside0.mk (HST.out.keep hB)
  clear hR hB hcells
  rw [hwl]
  go_wp2_with (at_builtin; refine wpList_append_own _ rfl _ _ 35 rfl w.heap.size 34 i0 (.int .u32 0) 1 4 (by kernel_rfl) hi hz0 hz1 hz2 rfl (by decide) (.slice none 0 0) 0 [] rfl ⟨rfl, .inl ⟨rfl, rfl⟩⟩ ⟨ga, 0, none⟩ 8 8 x.cells.toList rfl rfl ?c1 ?c2 ?c3 ?c4 ?c5 ?_)
  case c1 =>
    intro j u hj
    have hadd : (⟨ga, 0, none⟩ : Addr).add j = ⟨ga, j, none⟩ := by unfold Addr.add; split <;> simp_all
    rw [hadd]
    exact HST.out.at j u (by simpa using hj)
  case c2 => intro u hu; simp [V8.cells] at hu; rcases hu with rfl | rfl | rfl | rfl | rfl | rfl | rfl | rfl <;> rfl
  case c3 => decide
  case c4 => decide
  case c5 => exact HB.out.size
  intro v' w2 hown hgrow _
  obtain ⟨g2, c2, rfl, hg2, hW8⟩ : ∃ g c, v' = .slice (some ⟨g, 0, none⟩) 8 c ∧ w.heap.size ≤ g ∧ W8 w2 g x := by
    rcases hown.2 with ⟨_, h0⟩ | ⟨g, cap, cur, hv, hb, hg, _⟩
    · cases h0
    · subst hv
      have hat : ∀ (j : Nat) (v : Value), x.cells.toList[j]? = some v → w2.cell? ⟨g, j, none⟩ = some v := fun j v hj => by
        have := hown.cells (g := g) rfl j v (by simpa using hj)
        have hadd : (⟨g, 0, none⟩ : Addr).add j = ⟨g, j, none⟩ := by unfold Addr.add; split <;> simp_all
        rwa [hadd] at this
      exact ⟨g, cap, rfl, hb, ⟨(Array.getElem?_eq_some_iff.1 hg).1, hat 0 _ rfl, hat 1 _ rfl, hat 2 _ rfl, hat 3 _ rfl, hat 4 _ rfl, hat 5 _ rfl, hat 6 _ rfl, hat 7 _ rfl⟩⟩
  have hgb : Below w1.heap.size w1 w2 := (Below.refl _ _).grown hgrow (Nat.le_refl _) (by intro k hk; cases hk)
  have HST := Aside0.mk (HST.out.keep hgb)
  have HR := Aside0.mk (HR.out.keep hgb)
  have HB := Aside0.mk (HB.out.trans (hgb.mono HB.out.size))
  have HV := Aside0.mk (show W8 w2 g2 (cv x KL WL 0) ∧ w.heap.size ≤ g2 from ⟨hW8, hg2⟩)
  clear hown hgrow hW8 hgb hg2
  go_wp2_with fail
  go_loopw [6, 7] (fun v n wr => ∃ i g c : Nat, i ≤ 64 ∧ n = .int .i64 i ∧ v = .slice (some ⟨g, 0, none⟩) 8 c ∧ Aside0 (W8 wr g (cv x KL WL i) ∧ w.heap.size ≤ g ∧ (i = 0 ∨ c = 8 ∧ Row wr g 34 (cv x KL WL i).l)) ∧ Aside0 (RowI wr gw WL) ∧ Aside0 (W8 wr ga x) ∧ Aside0 (Below w.heap.size w wr)) (fun _ n _ => 64 - (intOf n).toNat)
  case atStart => exact ⟨0, _, _, by omega, rfl, rfl, ⟨HV.out.1, HV.out.2, .inl rfl⟩, HR, HST, HB⟩
  case round =>
    clear HV HR HST HB
    obtain ⟨i, gv, c, hi64, rfl, rfl, HV, HR, HST, HB⟩ := hrel
    by_cases hlt : i < 64
    · have hS : Hid (stp (cv x KL WL i) (KL.getD i 0) (WL.getD i 0) = cv x KL WL (i + 1)) := Lib.hid rfl
      have hV := HV.out.1
      have hcw := HR.out.at' i (by omega)
      have hgwl := HR.out.lt
      have HKq := fun (W : World) => K_q i hlt W
      generalize KL.getD i 0 = kk at *
      generalize WL.getD i 0 = ww at *
      generalize cv x KL WL i = y at *
      obtain ⟨a, b', c', d, e, f, g, h⟩ := y
      have hgv := hV.lt
      have c0 : wr.cell? ⟨gv, 0, none⟩ = some (.int .u32 a) := hV.c0
      have c1 : wr.cell? ⟨gv, 1, none⟩ = some (.int .u32 b') := hV.c1
      have c2 : wr.cell? ⟨gv, 2, none⟩ = some (.int .u32 c') := hV.c2
      have c3 : wr.cell? ⟨gv, 3, none⟩ = some (.int .u32 d) := hV.c3
      have c4 : wr.cell? ⟨gv, 4, none⟩ = some (.int .u32 e) := hV.c4
      have c5 : wr.cell? ⟨gv, 5, none⟩ = some (.int .u32 f) := hV.c5
      have c6 : wr.cell? ⟨gv, 6, none⟩ = some (.int .u32 g) := hV.c6
      have c7 : wr.cell? ⟨gv, 7, none⟩ = some (.int .u32 h) := hV.c7
      clear hV
      go_wp2_with fail
      refine region_below_tail 43 (by kernel_rfl) (by kernel_rfl) ?_
      simp only [List.take_succ_cons, List.take_zero, List.drop_succ_cons, List.drop_zero]
      repeat (first | go_big_quiet_step (fail) | (refine BigFrame.wpQuiet_want (by rfl) (fun K hK => ?_); go_big_quiet_op; refine ⟨_, fun _ _ => rfl, hK _ ?_⟩; clear hK K) | (refine q_ld 34 _ _ _ _ rfl rfl rfl rfl (ld_u32 _ _) (by assumption) (by assumption) ?_; simp only [Act.put, List.setIfInBounds_toArray, List.set_cons_zero, List.set_cons_succ]) | (refine q_go (f := 25) Try.func25 (by kernel_rfl) rfl #[.int .u32 _, .int .u64 _] _ _ rfl rfl rfl (by simp only [List.map_toArray, List.map_cons, List.map_nil]; rfl) (fun w' _ => rot_q _ _ (by decide) (by decide) w') ?_; simp only [Act.put, List.setIfInBounds_toArray, List.set_cons_zero, List.set_cons_succ]) | (refine q_go (f := 26) Try.func26 (by kernel_rfl) rfl #[.int .i64 _] _ _ rfl rfl rfl (by simp only [List.map_toArray, List.map_cons, List.map_nil]; rfl) (fun w' _ => HKq w') ?_; simp only [Act.put, List.setIfInBounds_toArray, List.set_cons_zero, List.set_cons_succ]))
      refine wpQuiet_nil ?_
      intro wn hw'
      clear c0 c1 c2 c3 c4 c5 c6 c7 hcw hgwl hgv HKq
      have HV := Aside0.mk (show W8 wn gv ⟨a, b', c', d, e, f, g, h⟩ ∧ w.heap.size ≤ gv from ⟨HV.out.1.keep hw', HV.out.2.1⟩)
      have HR := Aside0.mk (HR.out.keep hw')
      have HST := Aside0.mk (HST.out.keep hw')
      have HB := Aside0.mk (below2 HB.out HB.out.size hw')
      have hgv := HV.out.1.lt
      have c0 : wn.cell? ⟨gv, 0, none⟩ = some (.int .u32 a) := HV.out.1.c0
      have c1 : wn.cell? ⟨gv, 1, none⟩ = some (.int .u32 b') := HV.out.1.c1
      have c2 : wn.cell? ⟨gv, 2, none⟩ = some (.int .u32 c') := HV.out.1.c2
      have c3 : wn.cell? ⟨gv, 3, none⟩ = some (.int .u32 d) := HV.out.1.c3
      have c4 : wn.cell? ⟨gv, 4, none⟩ = some (.int .u32 e) := HV.out.1.c4
      have c5 : wn.cell? ⟨gv, 5, none⟩ = some (.int .u32 f) := HV.out.1.c5
      have c6 : wn.cell? ⟨gv, 6, none⟩ = some (.int .u32 g) := HV.out.1.c6
      have c7 : wn.cell? ⟨gv, 7, none⟩ = some (.int .u32 h) := HV.out.1.c7
      clear hw'
      have hmx : (if IntKind.u32.signed = true then (-1 : Int) else IntKind.u32.max) = 4294967295 := rfl
      rw [hmx]
      clear hmx
      go_wp2_with fail
      rw [tt_ref]
      have HT : Hid (stp ⟨a, b', c', d, e, f, g, h⟩ kk ww = ⟨(tt e f g h kk ww + uu a b' c') % 4294967296, a, b', c', (d + tt e f g h kk ww) % 4294967296, e, f, g⟩) := Lib.hid rfl
      generalize tt e f g h kk ww = t at *
      refine region_below_tail 38 (by kernel_rfl) (by kernel_rfl) ?_
      simp only [List.take_succ_cons, List.take_zero, List.drop_succ_cons, List.drop_zero]
      repeat (first | go_big_quiet_step (fail) | (refine BigFrame.wpQuiet_want (by rfl) (fun K hK => ?_); go_big_quiet_op; refine ⟨_, fun _ _ => rfl, hK _ ?_⟩; clear hK K) | (refine q_ld 34 _ _ _ _ rfl rfl rfl rfl (ld_u32 _ _) (by assumption) (by assumption) ?_; simp only [Act.put, List.setIfInBounds_toArray, List.set_cons_zero, List.set_cons_succ]) | (refine q_go (f := 25) Try.func25 (by kernel_rfl) rfl #[.int .u32 _, .int .u64 _] _ _ rfl rfl rfl (by simp only [List.map_toArray, List.map_cons, List.map_nil]; rfl) (fun w' _ => rot_q _ _ (by decide) (by decide) w') ?_; simp only [Act.put, List.setIfInBounds_toArray, List.set_cons_zero, List.set_cons_succ]))
      refine wpQuiet_nil ?_
      clear c0 c1 c2 c3 c4 c5 c6 c7 hgv
      intro wm hw'
      have HV := Aside0.mk (show W8 wm gv ⟨a, b', c', d, e, f, g, h⟩ ∧ w.heap.size ≤ gv from ⟨HV.out.1.keep hw', HV.out.2⟩)
      have HR := Aside0.mk (HR.out.keep hw')
      have HST := Aside0.mk (HST.out.keep hw')
      have HB := Aside0.mk (below2 HB.out HB.out.size hw')
      have hgv := HV.out.1.lt
      have c0 : wm.cell? ⟨gv, 0, none⟩ = some (.int .u32 a) := HV.out.1.c0
      have c1 : wm.cell? ⟨gv, 1, none⟩ = some (.int .u32 b') := HV.out.1.c1
      have c2 : wm.cell? ⟨gv, 2, none⟩ = some (.int .u32 c') := HV.out.1.c2
      have c3 : wm.cell? ⟨gv, 3, none⟩ = some (.int .u32 d) := HV.out.1.c3
      have c4 : wm.cell? ⟨gv, 4, none⟩ = some (.int .u32 e) := HV.out.1.c4
      have c5 : wm.cell? ⟨gv, 5, none⟩ = some (.int .u32 f) := HV.out.1.c5
      have c6 : wm.cell? ⟨gv, 6, none⟩ = some (.int .u32 g) := HV.out.1.c6
      have c7 : wm.cell? ⟨gv, 7, none⟩ = some (.int .u32 h) := HV.out.1.c7
      clear hw'
      go_wp2_with fail
      rw [uu_ref]
      generalize uu a b' c' = u at *
      refine region_below_tail 26 (by kernel_rfl) (by kernel_rfl) ?_
      simp only [List.take_succ_cons, List.take_zero, List.drop_succ_cons, List.drop_zero]
      repeat (first | go_big_quiet_step (fail) | (refine BigFrame.wpQuiet_want (by rfl) (fun K hK => ?_); go_big_quiet_op; refine ⟨_, fun _ _ => rfl, hK _ ?_⟩; clear hK K) | (refine q_ld 34 _ _ _ _ rfl rfl rfl rfl (ld_u32 _ _) (by assumption) (by assumption) ?_; simp only [Act.put, List.setIfInBounds_toArray, List.set_cons_zero, List.set_cons_succ]))
      refine wpQuiet_nil ?_
      clear c0 c1 c2 c3 c4 c5 c6 c7 hgv
      intro wl hw'
      have HR := Aside0.mk (HR.out.keep hw')
      have HST := Aside0.mk (HST.out.keep hw')
      have HB := Aside0.mk (below2 HB.out HB.out.size hw')
      clear hw'
      go_wp2_with fail
      go_roundw
      case measure => simp [intOf]; omega
      case rel =>
        have hrow : Row (wl.alloc (.cells (arr .u32 [(t + u) % 4294967296, a, b', c', (d + t) % 4294967296, e, f, g]) 34)) wl.heap.size 34 (cv x KL WL (i + 1)).l := by
          rw [← hS.out, HT.out]
          exact Row.new wl _ _
        exact ⟨i + 1, wl.heap.size, 8, by omega, by go_num, rfl, ⟨W8.of _ hrow, HB.out.size, .inr ⟨rfl, hrow⟩⟩, ⟨HR.out.keep (below_alloc (Below.refl _ _) _)⟩, ⟨HST.out.keep (below_alloc (Below.refl _ _) _)⟩, ⟨below_alloc HB.out _⟩⟩
    · have hi : i = 64 := by omega
      have HI := Lib.hid (HRES.out i hi)
      have hrow : c = 8 ∧ Row wr gv 34 (cv x KL WL i).l := by
        rcases HV.out.2.2 with h | h
        · omega
        · exact h
      obtain ⟨rfl, hrow⟩ := hrow
      have hgB := HV.out.2.1
      have HN := Lib.hid hi
      clear hi hi64 HV HRES
      generalize cv x KL WL i = y at *
      have HY : Aside0 (Row wr gv 34 (ad y.l x.l 0)) := ⟨hrow⟩
      have hne : ga ≠ gv := by have := HGA.out; omega
      clear hrow
      go_wp2_with fail
      go_loopw [10] (fun n wr => ∃ j : Nat, j ≤ 8 ∧ n = .int .i64 j ∧ Aside0 (Row wr gv 34 (ad y.l x.l j)) ∧ Aside0 (W8 wr ga x) ∧ Aside0 (Below w.heap.size w wr)) (fun n _ => 8 - (intOf n).toNat)
      case atStart => exact ⟨0, by omega, rfl, HY, HST, HB⟩
      case round =>
        clear HY HST HB HR
        obtain ⟨j, hj, rfl, HY, HST, HB⟩ := hrel
        by_cases hlt : j < 8
        · have hyl : (ad y.l x.l j).length = 8 := ad_len _ _ _
          have hcv := HY.out.cell j (by omega)
          have hcs := HST.out.get j hlt
          have hgv := HY.out.lt
          have hga := HST.out.lt
          have hS : Hid (ad y.l x.l (j + 1) = (ad y.l x.l j).set j (((ad y.l x.l j).getD j 0 + x.l.getD j 0) % 4294967296)) := Lib.hid rfl
          generalize (ad y.l x.l j).getD j 0 = vv at *
          generalize x.l.getD j 0 = ss at *
          generalize ad y.l x.l j = L at *
          go_wp2_with fail
          refine region_below_tail 11 (by kernel_rfl) (by kernel_rfl) ?_
          simp only [List.take_succ_cons, List.take_zero, List.drop_succ_cons, List.drop_zero]
          repeat (first | go_big_quiet_step (fail) | (refine BigFrame.wpQuiet_want (by rfl) (fun K hK => ?_); go_big_quiet_op; refine ⟨_, fun _ _ => rfl, hK _ ?_⟩; clear hK K) | (refine q_ld 34 _ _ _ _ rfl rfl rfl rfl (ld_u32 _ _) (by assumption) (by assumption) ?_; simp only [Act.put, List.setIfInBounds_toArray, List.set_cons_zero, List.set_cons_succ]))
          refine wpQuiet_nil ?_
          intro wn hw'
          have HY := Aside0.mk (HY.out.keep hw')
          have HST := Aside0.mk (HST.out.keep hw')
          have HB := Aside0.mk (below2 HB.out HB.out.size hw')
          have hcv := HY.out.cell j (by omega)
          have hfr := HY.out.frozen j
          clear hw' hcs hyl
          go_wp2_with fail
          go_roundw
          case measure => simp [intOf]; omega
          case rel => exact ⟨j + 1, by omega, by go_num, ⟨by rw [hS.out]; exact HY.out.set j _⟩, ⟨HST.out.other hne j _⟩, ⟨HB.out.setCell (by simp; omega) _⟩⟩
        · have hj8 : j = 8 := by omega
          have HJ := Lib.hid hj8
          clear hj8 hj
          go_wp2_with fail
          go_ret
          have hy := HY.out
          rw [HJ.out, ← ad_comm] at hy
          have h8 : (ad x.l y.l 8).length = 8 := ad_len _ _ _
          rw [← v8_l _ h8, HI.out] at hy
          exact ⟨gv, rfl, W8.of _ hy, hgB, HB.out⟩
/-- The state behind one more block: the document's answer. -/
theorem refblock_calls (ga gb ob cb : Nat) (x : V8) (l : List UInt8) (hl : l.length = 64) (hcb : 64 ≤ cb) (w : World) (hst : W8 w ga x) (hga : ga < w.heap.size) (hb : ∀ j z, l[j]? = some z → w.cell? ⟨gb, ob + j, none⟩ = some (.int .u8 (z.toNat : Int))) :
    Calls Try.prog 18 #[.slice (some ⟨ga, 0, none⟩) 8 8, .slice (some ⟨gb, ob, none⟩) 64 cb] w fun e w' => ∃ g, e = .returned (.slice (some ⟨g, 0, none⟩) 8 8) ∧ W8 w' g (bv x ⟨l.toArray⟩) ∧ w.heap.size ≤ g ∧ Below w.heap.size w w' := by
  refine refblock_walk ga gb ob cb x (bv x ⟨l.toArray⟩) l hl (wlAll ⟨l.toArray⟩) (wlAll_len _) 70 (words_f l hl) ?_ hcb w hst hga hb
  rintro i rfl
  rfl
end Go.Proofs.Ytaobnbmpeplefaa
