/- sector.Mine: its walk. -/
import Derived.Test.YtoakibpgmjebeaaRefSecRead
import Derived.Test.YtoakibpgmjebeaaQBelow2
namespace Go.Proofs.Ytoakibpgmjebeaa
open Go.RowKit Q Go.Proofs.YtoakibpgmjebeaaW.PrintWords Go.Proofs.YtoakibpgmjebeaaW.PrintLast Go.Proofs.YtoakibpgmjebeaaW.PrintMore
attribute [local go_sem high] eqA30
/-- What Mine answers of what Read answers. -/
def mineP (r : Int × Int × Int × Int × Int × ByteArray × Int) (V G : Int) (l : List S23) (ix : Int) : ByteArray × Int :=
  if r.2.2.2.2.2.2 = 0 then (if (!(r.1 == V) || (!(r.2.1 == G) || (!(r.2.2.1 == ix) || ((!(r.2.2.2.1 == (rd_T23 l ix).f0) || (!(r.2.2.2.2.1 == (rd_T23 l ix).f1))))))) = true then (⟨#[]⟩, 4) else (r.2.2.2.2.2.1, 0)) else (⟨#[]⟩, r.2.2.2.2.2.2)
section
variable {P : Program} {ops : Array Oper} {W0 : World}
theorem q_rd {o : Oper} {rest : List Oper} {Q : Act → Prop} {a : Act} (T : TypeId) (x : Operand) (N : Nat) (ad : Addr) (v : Value) (ho : o.op = .load T x) (hN : o.dst = some N) (hg : o.guard = none) (hx : a.eval x = .pointer (some ad))
    (hT : ∀ (w' : World), Below W0.heap.size W0 w' → (Instr.loadAt T (.pointer (some ad))).run P w' = .ok v w')
    (h : wpQuiet P ops (Below W0.heap.size W0) Q rest (a.put (some N) v)) : wpQuiet P ops (Below W0.heap.size W0) Q (o :: rest) a := by
  refine q_val v (some N) hN (by unfold Region.wanted; rw [hg]) (fun w' hw' => ?_) h
  have := hT w' hw'
  unfold execOp
  simp only [ho, hx, Sem.run_bind, this, Result.andThen_ok, Sem.run_pure]
end
theorem lt_cell {w : World} {ad : Addr} {v : Value} (h : w.cell? ad = some v) : ad.block < w.heap.size := by
  rcases Nat.lt_or_ge ad.block w.heap.size with h1 | h1
  · exact h1
  · exfalso
    have : w.heap[ad.block]? = none := Array.getElem?_eq_none h1
    simp [World.cell?, this] at h
theorem ld_hdr (g : Nat) (a b c d e : Int) (t : ByteArray) (w : World) (h : Blk w g #[.int .i64 a, .int .i64 b, .int .i64 c, .int .i64 d, .int .i64 e, .string t] 30) : (Instr.loadAt 30 (.pointer (some ⟨g, 0, none⟩))).run Try.prog w = .ok (.agg #[.int .i64 a, .int .i64 b, .int .i64 c, .int .i64 d, .int .i64 e, .string t]) w := by
  have hu30 := Try.underlying30
  have hu23 := Try.underlying23
  obtain ⟨c0, c1, c2, c3, c4, c5⟩ := six h
  go_simp
theorem ld_loc (ad : Addr) (a b : Int) (w : World) (h0 : w.cell? ad = some (.int .i64 a)) (h1 : w.cell? ⟨ad.block, ad.off + 1, none⟩ = some (.int .i64 b)) : (Instr.loadAt 23 (.pointer (some ad))).run Try.prog w = .ok (.agg #[.int .i64 a, .int .i64 b]) w := by
  have hu23 := Try.underlying23
  go_simp
theorem ld_locs (ad : Addr) (v : Value) (w : World) (h : w.cell? ad = some v) : (Instr.loadAt 34 (.pointer (some ad))).run Try.prog w = .ok v w := by
  go_simp
set_option maxRecDepth 100000 in
set_option maxHeartbeats 1000000 in
theorem mine_bad (s : ByteArray) (V G D : Int) (A : Option Addr) (n c : Nat) (ix : Int) (w : World) (h : (n : Int) ≠ 9 ∨ ((n : Int) = 9 ∧ (ix < 0 ∨ 9 ≤ ix))) : Calls Try.prog 16 #[.string s, .agg #[.int .i64 V, .int .i64 G, .int .i64 D, .slice A n c], .int .i64 ix] w fun e w' => e = .returned (.tuple #[.string ⟨#[]⟩, .int .i64 1]) ∧ Below w.heap.size w w' := by
  have hu36 := Try.underlying36
  have HB : Aside0 (Below w.heap.size w (w.alloc (.cells #[.int .i64 V, .int .i64 G, .int .i64 D, .slice A n c] 36))) := ⟨(Below.refl _ _).alloc (Nat.le_refl _) _⟩
  rcases h with h | ⟨h, h2⟩
  · have t1 : ((n : Int) == 9) = false := by simpa using h
    have t2 : ((n : Int) != 9) = true := by simp [bne, t1]
    clear h
    go_enter Try.func16, Try.ntmps16
    go_wp2_with fail
    go_ret2
    exact ⟨rfl, HB.out⟩
  · have t1 : ((n : Int) == 9) = true := by simpa using h
    have t2 : ((n : Int) != 9) = false := by simp [bne, t1]
    clear h
    by_cases h3 : ix < 0
    · clear h2
      go_enter Try.func16, Try.ntmps16
      go_wp2_with fail
      go_ret2
      exact ⟨rfl, HB.out⟩
    · have h4 : 9 ≤ ix := by omega
      clear h2
      go_enter Try.func16, Try.ntmps16
      go_wp2_with fail
      go_ret2
      exact ⟨rfl, HB.out⟩
set_option maxRecDepth 100000 in
set_option maxHeartbeats 2000000 in
theorem mine_good (m : List UInt8) (hm : m.length ≤ 140737488355328) (V G D : Int) (A : Option Addr) (n c : Nat) (l : List S23) (ix : Int) (w : World) (hr : Kd.C k23 w A n l) (hn : (n : Int) = 9) (h0 : 0 ≤ ix) (h9 : ix < 9) : Calls Try.prog 16 #[.string (B m), .agg #[.int .i64 V, .int .i64 G, .int .i64 D, .slice A n c], .int .i64 ix] w fun e w' => e = .returned (.tuple #[.string (mineP (secR m) V G l ix).1, .int .i64 (mineP (secR m) V G l ix).2]) ∧ Below w.heap.size w w' := by
  have hu36 := Try.underlying36
  have hu30 := Try.underlying30
  have hu23 := Try.underlying23
  have HB : Aside0 (Below w.heap.size w (w.alloc (.cells #[.int .i64 V, .int .i64 G, .int .i64 D, .slice A n c] 36))) := ⟨(Below.refl _ _).alloc (Nat.le_refl _) _⟩
  have HV : Aside0 (Blk (w.alloc (.cells #[.int .i64 V, .int .i64 G, .int .i64 D, .slice A n c] 36)) w.heap.size #[.int .i64 V, .int .i64 G, .int .i64 D, .slice A n c] 36) := ⟨Blk.new w _ _⟩
  obtain ⟨ad, hA, k0, k1⟩ := at_T23 hr ix h0 (by omega)
  have K0 := Lib.hid k0
  have K1 := Lib.hid k1
  have t1 : ((n : Int) == 9) = true := by simpa using hn
  have t2 : ((n : Int) != 9) = false := by simp [bne, t1]
  have hlt : ix < (n : Int) := by omega
  clear k0 k1 hr
  subst hA
  obtain ⟨⟨r1, r2, r3, r4, r5, r6, r7⟩, hR⟩ : ∃ r, secR m = r := ⟨_, rfl⟩
  rw [hR]
  have HRR := Lib.hid hR
  clear hR
  by_cases he : r7 = 0
  · subst he
    obtain ⟨q, hq⟩ : ∃ q : Bool, (!(r1 == V) || (!(r2 == G) || (!(r3 == ix) || ((!(r4 == (rd_T23 l ix).f0) || (!(r5 == (rd_T23 l ix).f1))))))) = q := ⟨_, rfl⟩
    have HM : mineP (r1, r2, r3, r4, r5, r6, 0) V G l ix = if q = true then (⟨#[]⟩, 4) else (r6, 0) := by subst hq; exact if_pos rfl
    rw [HM]
    clear HM
    go_enter Try.func16, Try.ntmps16
    go_wp2_with fail
    refine (read_calls m hm _).mono ?_
    rintro e w1 ⟨rfl, b1⟩
    replace HV := Aside0.mk (HV.out.keep b1)
    replace HB := Aside0.mk (below2 HB.out HB.out.size b1)
    clear b1
    rw [HRR.out]
    clear HRR
    have HB := Aside0.mk (below_alloc HB.out (.cells #[.int .i64 r1, .int .i64 r2, .int .i64 r3, .int .i64 r4, .int .i64 r5, .string r6] 30))
    have HV := Aside0.mk (HV.out.alloc (.cells #[.int .i64 r1, .int .i64 r2, .int .i64 r3, .int .i64 r4, .int .i64 r5, .string r6] 30))
    have HH := Aside0.mk (Blk.new w1 #[.int .i64 r1, .int .i64 r2, .int .i64 r3, .int .i64 r4, .int .i64 r5, .string r6] 30)
    go_wp2_with fail
    generalize w1.alloc (.cells #[.int .i64 r1, .int .i64 r2, .int .i64 r3, .int .i64 r4, .int .i64 r5, .string r6] 30) = wz at *
    generalize w1.heap.size = gh at *
    obtain ⟨d0, d1, d2, d3, d4, d5⟩ := six HH.out
    have v0 := HV.out.cell (i := 0) (v := .int .i64 V) rfl
    have v1 := HV.out.cell (i := 1) (v := .int .i64 G) rfl
    have v3 := HV.out.cell (i := 3) (v := .slice (some ad) n c) rfl
    have hV := HV.out.lt
    have hH := HH.out.lt
    have hK : (ad.add (ix.toNat * 2)).block < w.heap.size := lt_cell K0.out
    have hK1 := lt_cell K1.out
    refine region_below_tail 14 (by kernel_rfl) (by kernel_rfl) ?_
    simp only [List.take_succ_cons, List.take_zero, List.drop_succ_cons, List.drop_zero]
    repeat (first | go_big_quiet_step (fail) | (refine BigFrame.wpQuiet_want (by rfl) (fun K hK => ?_); go_big_quiet_op; refine ⟨_, fun _ _ => rfl, hK _ ?_⟩; clear hK K) | (refine q_ld 3 _ _ _ _ rfl rfl rfl rfl (ld_int _ _) (by assumption) (by assumption) ?_; simp only [Act.put, List.setIfInBounds_toArray, List.set_cons_zero, List.set_cons_succ]) | (refine q_ld 9 _ _ _ _ rfl rfl rfl rfl (ld_str _ _) (by assumption) (by assumption) ?_; simp only [Act.put, List.setIfInBounds_toArray, List.set_cons_zero, List.set_cons_succ]) | (refine q_ld 34 _ _ _ _ rfl rfl rfl rfl (ld_locs _ _) (by assumption) (by assumption) ?_; simp only [Act.put, List.setIfInBounds_toArray, List.set_cons_zero, List.set_cons_succ]) | (refine q_rd 30 _ _ ⟨gh, 0, none⟩ (.agg #[.int .i64 r1, .int .i64 r2, .int .i64 r3, .int .i64 r4, .int .i64 r5, .string r6]) rfl rfl rfl rfl (fun w' hw' => ld_hdr _ _ _ _ _ _ _ w' (HH.out.keep hw')) ?_; simp only [Act.put, List.setIfInBounds_toArray, List.set_cons_zero, List.set_cons_succ]) | (refine q_rd 23 _ _ (ad.add (ix.toNat * 2)) (.agg #[.int .i64 (rd_T23 l ix).f0, .int .i64 (rd_T23 l ix).f1]) rfl rfl rfl rfl (fun w' hw' => ld_loc _ _ _ w' ((hw'.cell (Nat.lt_of_lt_of_le hK HB.out.size)).trans ((HB.out.cell hK).trans K0.out)) ((hw'.cell (Nat.lt_of_lt_of_le hK1 HB.out.size)).trans ((HB.out.cell hK1).trans K1.out))) ?_; simp only [Act.put, List.setIfInBounds_toArray, List.set_cons_zero, List.set_cons_succ]))
    refine wpQuiet_nil ?_
    intro wn hw'
    have hb := hw'
    replace HB := Aside0.mk (below2 HB.out HB.out.size hb)
    replace HH := Aside0.mk (HH.out.keep hw')
    clear hb hw' d0 d1 d2 d3 d4 d5 v0 v1 v3 hV hH hK hK1
    obtain ⟨d0, d1, d2, d3, d4, d5⟩ := six HH.out
    cases q
    · go_wp2_with fail
      go_ret2
      exact ⟨rfl, HB.out⟩
    · go_wp2_with fail
      go_ret2
      exact ⟨rfl, HB.out⟩
  · have t3 : (r7 == 0) = false := by simpa using he
    have t4 : (r7 != 0) = true := by simp [bne, t3]
    have HM : Hid (mineP (r1, r2, r3, r4, r5, r6, r7) V G l ix = (⟨#[]⟩, r7)) := Lib.hid (if_neg he)
    rw [HM.out]
    clear he HM
    go_enter Try.func16, Try.ntmps16
    go_wp2_with fail
    refine (read_calls m hm _).mono ?_
    rintro e w1 ⟨rfl, b1⟩
    replace HV := Aside0.mk (HV.out.keep b1)
    replace HB := Aside0.mk (below2 HB.out HB.out.size b1)
    clear b1
    rw [HRR.out]
    clear HRR
    have HB := Aside0.mk (below_alloc HB.out (.cells #[.int .i64 r1, .int .i64 r2, .int .i64 r3, .int .i64 r4, .int .i64 r5, .string r6] 30))
    go_wp2_with fail
    go_ret2
    exact ⟨rfl, HB.out⟩
/-- sector_Mine, in the form in which its callers take it. -/
def sector_Mine.f (a0 : ByteArray) (a1_0 a1_1 _a1_2 : Int) (l1_3 : List S23) (a2 : Int) : Option (ByteArray × Int) :=
  if (l1_3.length : Int) = 9 ∧ 0 ≤ a2 ∧ a2 < 9 then (if a0.size ≤ 140737488355328 then some (mineP (secR a0.data.toList) a1_0 a1_1 l1_3 a2) else none) else some (⟨#[]⟩, 1)
theorem sector_Mine.calls (a0 : ByteArray) (a1_0 : Int) (a1_1 : Int) (a1_2 : Int) (A1_3 : Option Addr) (c1_3 : Nat) (l1_3 : List S23) (a2 : Int) (r1 : ByteArray) (r2 : Int) (w : World) (hr1_3 : Kd.C k23 w A1_3 l1_3.length l1_3) (_hc1_3 : l1_3.length ≤ c1_3) (h : sector_Mine.f a0 a1_0 a1_1 a1_2 l1_3 a2 = some (r1, r2)) :
    Calls Try.prog 16 #[.string a0, .agg #[.int .i64 a1_0, .int .i64 a1_1, .int .i64 a1_2, .slice A1_3 l1_3.length c1_3], .int .i64 a2] w fun e w' => e = .returned (.tuple #[.string r1, .int .i64 r2]) ∧ Below w.heap.size w w' := by
  unfold sector_Mine.f at h
  split at h
  · rename_i hg
    split at h
    · rename_i hs
      have e := Option.some.inj h
      have := mine_good a0.data.toList (by rw [size_data]; exact hs) a1_0 a1_1 a1_2 A1_3 l1_3.length c1_3 l1_3 a2 w hr1_3 hg.1 hg.2.1 hg.2.2
      rw [e, B_eta] at this
      exact this
    · cases h
  · rename_i hg
    have e := Option.some.inj h
    simp only [Prod.mk.injEq] at e
    obtain ⟨rfl, rfl⟩ := e
    exact mine_bad a0 a1_0 a1_1 a1_2 A1_3 l1_3.length c1_3 a2 w (by omega)
end Go.Proofs.Ytoakibpgmjebeaa
/-! sluicegateref07.Mine: its walk. -/
namespace Go.Proofs.Ytoakibpgmjebeaa
open Go.RowKit Q Go.Proofs.YtoakibpgmjebeaaW.PrintWords Go.Proofs.YtoakibpgmjebeaaW.PrintLast Go.Proofs.YtoakibpgmjebeaaW.PrintMore
attribute [local go_sem high] eqA23
section
variable {P : Program} {ops : Array Oper} {W0 : World}
theorem q_rdw {o : Oper} {rest : List Oper} {Q : Act → Prop} {a : Act} (T : TypeId) (x : Operand) (N : Nat) (ad : Addr) (v : Value) (ho : o.op = .load T x) (hN : o.dst = some N) (hw : Region.wanted o (yielded ops a.tmps) = true) (hx : a.eval x = .pointer (some ad))
    (hT : ∀ (w' : World), Below W0.heap.size W0 w' → (Instr.loadAt T (.pointer (some ad))).run P w' = .ok v w')
    (h : wpQuiet P ops (Below W0.heap.size W0) Q rest (a.put (some N) v)) : wpQuiet P ops (Below W0.heap.size W0) Q (o :: rest) a := by
  refine q_val v (some N) hN hw (fun w' hw' => ?_) h
  have := hT w' hw'
  unfold execOp
  simp only [ho, hx, Sem.run_bind, this, Result.andThen_ok, Sem.run_pure]
end
set_option maxRecDepth 100000 in
set_option maxHeartbeats 1000000 in
theorem rmine_bad (s : ByteArray) (V G D : Int) (A : Option Addr) (n c : Nat) (ix : Int) (w : World) (h : (n : Int) ≠ 9 ∨ ((n : Int) = 9 ∧ (ix < 0 ∨ 8 < ix))) : Calls Try.prog 17 #[.string s, .agg #[.int .i64 V, .int .i64 G, .int .i64 D, .slice A n c], .int .i64 ix] w fun e w' => e = .returned (.tuple #[.string ⟨#[]⟩, .int .i64 1]) ∧ Below w.heap.size w w' := by
  have hu36 := Try.underlying36
  have HB : Aside0 (Below w.heap.size w (w.alloc (.cells #[.int .i64 V, .int .i64 G, .int .i64 D, .slice A n c] 36))) := ⟨(Below.refl _ _).alloc (Nat.le_refl _) _⟩
  rcases h with h | ⟨h, h2⟩
  · have t1 : ((n : Int) == 9) = false := by simpa using h
    have t2 : ((n : Int) != 9) = true := by simp [bne, t1]
    clear h
    go_enter Try.func17, Try.ntmps17
    go_wp2_with fail
    go_ret2
    exact ⟨rfl, HB.out⟩
  · have t1 : ((n : Int) == 9) = true := by simpa using h
    have t2 : ((n : Int) != 9) = false := by simp [bne, t1]
    clear h
    by_cases h3 : ix < 0
    · clear h2
      go_enter Try.func17, Try.ntmps17
      go_wp2_with fail
      go_ret2
      exact ⟨rfl, HB.out⟩
    · have h4 : 8 < ix := by omega
      clear h2
      go_enter Try.func17, Try.ntmps17
      go_wp2_with fail
      go_ret2
      exact ⟨rfl, HB.out⟩
set_option maxRecDepth 100000 in
set_option maxHeartbeats 2000000 in
theorem rmine_good (m : List UInt8) (hm : m.length ≤ 140737488355328) (V G D : Int) (A : Option Addr) (n c : Nat) (l : List S23) (ix : Int) (w : World) (hr : Kd.C k23 w A n l) (hn : (n : Int) = 9) (h0 : 0 ≤ ix) (h9 : ix < 9) : Calls Try.prog 17 #[.string (B m), .agg #[.int .i64 V, .int .i64 G, .int .i64 D, .slice A n c], .int .i64 ix] w fun e w' => e = .returned (.tuple #[.string (mineP (secR m) V G l ix).1, .int .i64 (mineP (secR m) V G l ix).2]) ∧ Below w.heap.size w w' := by
  have hu36 := Try.underlying36
  have hu30 := Try.underlying25
  have hu23 := Try.underlying23
  have HB : Aside0 (Below w.heap.size w (w.alloc (.cells #[.int .i64 V, .int .i64 G, .int .i64 D, .slice A n c] 36))) := ⟨(Below.refl _ _).alloc (Nat.le_refl _) _⟩
  have HV : Aside0 (Blk (w.alloc (.cells #[.int .i64 V, .int .i64 G, .int .i64 D, .slice A n c] 36)) w.heap.size #[.int .i64 V, .int .i64 G, .int .i64 D, .slice A n c] 36) := ⟨Blk.new w _ _⟩
  obtain ⟨ad, hA, k0, k1⟩ := at_T23 hr ix h0 (by omega)
  have K0 := Lib.hid k0
  have K1 := Lib.hid k1
  have t1 : ((n : Int) == 9) = true := by simpa using hn
  have t2 : ((n : Int) != 9) = false := by simp [bne, t1]
  have hlt : ix < (n : Int) := by omega
  clear k0 k1 hr
  subst hA
  obtain ⟨⟨r1, r2, r3, r4, r5, r6, r7⟩, hR⟩ : ∃ r, secR m = r := ⟨_, rfl⟩
  rw [hR]
  have HRR := Lib.hid hR
  clear hR
  by_cases he : r7 = 0
  · subst he
    obtain ⟨q, hq⟩ : ∃ q : Bool, (!(r1 == V) || (!(r2 == G) || (!(r3 == ix) || ((!(r4 == (rd_T23 l ix).f0) || (!(r5 == (rd_T23 l ix).f1))))))) = q := ⟨_, rfl⟩
    have HM : mineP (r1, r2, r3, r4, r5, r6, 0) V G l ix = if q = true then (⟨#[]⟩, 4) else (r6, 0) := by subst hq; exact if_pos rfl
    rw [HM]
    clear HM
    go_enter Try.func17, Try.ntmps17
    go_wp2_with fail
    refine (rread_calls m hm _).mono ?_
    rintro e w1 ⟨rfl, b1⟩
    replace HV := Aside0.mk (HV.out.keep b1)
    replace HB := Aside0.mk (below2 HB.out HB.out.size b1)
    clear b1
    rw [HRR.out]
    clear HRR
    replace HB := Aside0.mk (below_alloc HB.out (.cells #[.int .i64 r1, .int .i64 r2, .int .i64 r3, .int .i64 r4, .int .i64 r5, .string r6] 25))
    replace HV := Aside0.mk (HV.out.alloc (.cells #[.int .i64 r1, .int .i64 r2, .int .i64 r3, .int .i64 r4, .int .i64 r5, .string r6] 25))
    have HH := Aside0.mk (Blk.new w1 #[.int .i64 r1, .int .i64 r2, .int .i64 r3, .int .i64 r4, .int .i64 r5, .string r6] 25)
    obtain ⟨d0, d1, d2, d3, d4, d5⟩ := six HH.out
    have v0 := HV.out.cell (i := 0) (v := .int .i64 V) rfl
    have v1 := HV.out.cell (i := 1) (v := .int .i64 G) rfl
    have v3 := HV.out.cell (i := 3) (v := .slice (some ad) n c) rfl
    have hV := HV.out.lt
    have hH := HH.out.lt
    have hK : (ad.add (ix.toNat * 2)).block < w.heap.size := lt_cell K0.out
    have hK1 := lt_cell K1.out
    have e0 := (HB.out.cell hK).trans K0.out
    have e1 := (HB.out.cell hK1).trans K1.out
    cases b1 : (r1 == V) with
    | false =>
      have b1' : (r1 != V) = true := by simp [bne, b1]
      have hq' : q = true := by rw [← hq, b1]; rfl
      subst hq'
      clear hq
      go_wp2_with fail
      generalize w1.alloc (.cells #[.int .i64 r1, .int .i64 r2, .int .i64 r3, .int .i64 r4, .int .i64 r5, .string r6] 25) = wz at *
      refine region_below_tail 27 (by kernel_rfl) (by kernel_rfl) ?_
      simp only [List.take_succ_cons, List.take_zero, List.drop_succ_cons, List.drop_zero]
      repeat (first | go_big_quiet_step (fail) | (refine BigFrame.wpQuiet_want (by rfl) (fun K hK => ?_); go_big_quiet_op; refine ⟨_, fun _ _ => rfl, hK _ ?_⟩; clear hK K) | (refine q_rdw 3 _ _ _ _ rfl rfl (by rfl) rfl (fun w' hw' => ld_int _ _ w' ((hw'.cell (by first | exact hV | exact hH)).trans (by assumption))) ?_; simp only [Act.put, List.setIfInBounds_toArray, List.set_cons_zero, List.set_cons_succ]) | (refine q_rdw 34 _ _ _ _ rfl rfl (by rfl) rfl (fun w' hw' => ld_locs _ _ w' ((hw'.cell (by first | exact hV | exact hH)).trans (by assumption))) ?_; simp only [Act.put, List.setIfInBounds_toArray, List.set_cons_zero, List.set_cons_succ]) | (refine q_rdw 23 _ _ (ad.add (ix.toNat * 2)) (.agg #[.int .i64 (rd_T23 l ix).f0, .int .i64 (rd_T23 l ix).f1]) rfl rfl (by rfl) rfl (fun w' hw' => ld_loc _ _ _ w' ((hw'.cell (Nat.lt_of_lt_of_le hK HB.out.size)).trans e0) ((hw'.cell (show (⟨(ad.add (ix.toNat * 2)).block, (ad.add (ix.toNat * 2)).off + 1, none⟩ : Addr).block < wz.heap.size from Nat.lt_of_lt_of_le hK HB.out.size)).trans e1)) ?_; simp only [Act.put, List.setIfInBounds_toArray, List.set_cons_zero, List.set_cons_succ]) | (refine q_rdw 23 _ _ ⟨w1.heap.size, 3, none⟩ (.agg #[.int .i64 r4, .int .i64 r5]) rfl rfl (by rfl) rfl (fun w' hw' => ld_loc _ _ _ w' ((hw'.cell hH).trans d3) ((hw'.cell (show (⟨w1.heap.size, 3 + 1, none⟩ : Addr).block < _ from hH)).trans d4)) ?_; simp only [Act.put, List.setIfInBounds_toArray, List.set_cons_zero, List.set_cons_succ]) | (refine q_val (.bool ((!(r4 == (rd_T23 l ix).f0)) || (!(r5 == (rd_T23 l ix).f1)))) (some 56) rfl (by rfl) (fun w' _ => by unfold execOp; go_simp) ?_; simp only [Act.put, List.setIfInBounds_toArray, List.set_cons_zero, List.set_cons_succ]))
      refine wpQuiet_nil ?_
      intro wn hw'
      replace HB := Aside0.mk (below2 HB.out HB.out.size hw')
      replace HH := Aside0.mk (HH.out.keep hw')
      clear hw' d0 d1 d2 d3 d4 d5 v0 v1 v3 hV hH hK hK1 e0 e1
      obtain ⟨d0, d1, d2, d3, d4, d5⟩ := six HH.out
      go_wp2_with fail
      go_ret2
      exact ⟨rfl, HB.out⟩
    | true =>
      have b1' : (r1 != V) = false := by simp [bne, b1]
      cases b2 : (r2 == G) with
      | false =>
        have b2' : (r2 != G) = true := by simp [bne, b2]
        have hq' : q = true := by rw [← hq, b1, b2]; rfl
        subst hq'
        clear hq
        go_wp2_with fail
        generalize w1.alloc (.cells #[.int .i64 r1, .int .i64 r2, .int .i64 r3, .int .i64 r4, .int .i64 r5, .string r6] 25) = wz at *
        refine region_below_tail 27 (by kernel_rfl) (by kernel_rfl) ?_
        simp only [List.take_succ_cons, List.take_zero, List.drop_succ_cons, List.drop_zero]
        repeat (first | go_big_quiet_step (fail) | (refine BigFrame.wpQuiet_want (by rfl) (fun K hK => ?_); go_big_quiet_op; refine ⟨_, fun _ _ => rfl, hK _ ?_⟩; clear hK K) | (refine q_rdw 3 _ _ _ _ rfl rfl (by rfl) rfl (fun w' hw' => ld_int _ _ w' ((hw'.cell (by first | exact hV | exact hH)).trans (by assumption))) ?_; simp only [Act.put, List.setIfInBounds_toArray, List.set_cons_zero, List.set_cons_succ]) | (refine q_rdw 34 _ _ _ _ rfl rfl (by rfl) rfl (fun w' hw' => ld_locs _ _ w' ((hw'.cell (by first | exact hV | exact hH)).trans (by assumption))) ?_; simp only [Act.put, List.setIfInBounds_toArray, List.set_cons_zero, List.set_cons_succ]) | (refine q_rdw 23 _ _ (ad.add (ix.toNat * 2)) (.agg #[.int .i64 (rd_T23 l ix).f0, .int .i64 (rd_T23 l ix).f1]) rfl rfl (by rfl) rfl (fun w' hw' => ld_loc _ _ _ w' ((hw'.cell (Nat.lt_of_lt_of_le hK HB.out.size)).trans e0) ((hw'.cell (show (⟨(ad.add (ix.toNat * 2)).block, (ad.add (ix.toNat * 2)).off + 1, none⟩ : Addr).block < wz.heap.size from Nat.lt_of_lt_of_le hK HB.out.size)).trans e1)) ?_; simp only [Act.put, List.setIfInBounds_toArray, List.set_cons_zero, List.set_cons_succ]) | (refine q_rdw 23 _ _ ⟨w1.heap.size, 3, none⟩ (.agg #[.int .i64 r4, .int .i64 r5]) rfl rfl (by rfl) rfl (fun w' hw' => ld_loc _ _ _ w' ((hw'.cell hH).trans d3) ((hw'.cell (show (⟨w1.heap.size, 3 + 1, none⟩ : Addr).block < _ from hH)).trans d4)) ?_; simp only [Act.put, List.setIfInBounds_toArray, List.set_cons_zero, List.set_cons_succ]) | (refine q_val (.bool ((!(r4 == (rd_T23 l ix).f0)) || (!(r5 == (rd_T23 l ix).f1)))) (some 56) rfl (by rfl) (fun w' _ => by unfold execOp; go_simp) ?_; simp only [Act.put, List.setIfInBounds_toArray, List.set_cons_zero, List.set_cons_succ]))
        refine wpQuiet_nil ?_
        intro wn hw'
        replace HB := Aside0.mk (below2 HB.out HB.out.size hw')
        replace HH := Aside0.mk (HH.out.keep hw')
        clear hw' d0 d1 d2 d3 d4 d5 v0 v1 v3 hV hH hK hK1 e0 e1
        obtain ⟨d0, d1, d2, d3, d4, d5⟩ := six HH.out
        go_wp2_with fail
        go_ret2
        exact ⟨rfl, HB.out⟩
      | true =>
        have b2' : (r2 != G) = false := by simp [bne, b2]
        cases b3 : (r3 == ix) with
        | false =>
          have b3' : (r3 != ix) = true := by simp [bne, b3]
          have hq' : q = true := by rw [← hq, b1, b2, b3]; rfl
          subst hq'
          clear hq
          go_wp2_with fail
          generalize w1.alloc (.cells #[.int .i64 r1, .int .i64 r2, .int .i64 r3, .int .i64 r4, .int .i64 r5, .string r6] 25) = wz at *
          refine region_below_tail 27 (by kernel_rfl) (by kernel_rfl) ?_
          simp only [List.take_succ_cons, List.take_zero, List.drop_succ_cons, List.drop_zero]
          repeat (first | go_big_quiet_step (fail) | (refine BigFrame.wpQuiet_want (by rfl) (fun K hK => ?_); go_big_quiet_op; refine ⟨_, fun _ _ => rfl, hK _ ?_⟩; clear hK K) | (refine q_rdw 3 _ _ _ _ rfl rfl (by rfl) rfl (fun w' hw' => ld_int _ _ w' ((hw'.cell (by first | exact hV | exact hH)).trans (by assumption))) ?_; simp only [Act.put, List.setIfInBounds_toArray, List.set_cons_zero, List.set_cons_succ]) | (refine q_rdw 34 _ _ _ _ rfl rfl (by rfl) rfl (fun w' hw' => ld_locs _ _ w' ((hw'.cell (by first | exact hV | exact hH)).trans (by assumption))) ?_; simp only [Act.put, List.setIfInBounds_toArray, List.set_cons_zero, List.set_cons_succ]) | (refine q_rdw 23 _ _ (ad.add (ix.toNat * 2)) (.agg #[.int .i64 (rd_T23 l ix).f0, .int .i64 (rd_T23 l ix).f1]) rfl rfl (by rfl) rfl (fun w' hw' => ld_loc _ _ _ w' ((hw'.cell (Nat.lt_of_lt_of_le hK HB.out.size)).trans e0) ((hw'.cell (show (⟨(ad.add (ix.toNat * 2)).block, (ad.add (ix.toNat * 2)).off + 1, none⟩ : Addr).block < wz.heap.size from Nat.lt_of_lt_of_le hK HB.out.size)).trans e1)) ?_; simp only [Act.put, List.setIfInBounds_toArray, List.set_cons_zero, List.set_cons_succ]) | (refine q_rdw 23 _ _ ⟨w1.heap.size, 3, none⟩ (.agg #[.int .i64 r4, .int .i64 r5]) rfl rfl (by rfl) rfl (fun w' hw' => ld_loc _ _ _ w' ((hw'.cell hH).trans d3) ((hw'.cell (show (⟨w1.heap.size, 3 + 1, none⟩ : Addr).block < _ from hH)).trans d4)) ?_; simp only [Act.put, List.setIfInBounds_toArray, List.set_cons_zero, List.set_cons_succ]) | (refine q_val (.bool ((!(r4 == (rd_T23 l ix).f0)) || (!(r5 == (rd_T23 l ix).f1)))) (some 56) rfl (by rfl) (fun w' _ => by unfold execOp; go_simp) ?_; simp only [Act.put, List.setIfInBounds_toArray, List.set_cons_zero, List.set_cons_succ]))
          refine wpQuiet_nil ?_
          intro wn hw'
          replace HB := Aside0.mk (below2 HB.out HB.out.size hw')
          replace HH := Aside0.mk (HH.out.keep hw')
          clear hw' d0 d1 d2 d3 d4 d5 v0 v1 v3 hV hH hK hK1 e0 e1
          obtain ⟨d0, d1, d2, d3, d4, d5⟩ := six HH.out
          go_wp2_with fail
          go_ret2
          exact ⟨rfl, HB.out⟩
        | true =>
          have b3' : (r3 != ix) = false := by simp [bne, b3]
          have hq2 : ((!(r4 == (rd_T23 l ix).f0)) || (!(r5 == (rd_T23 l ix).f1))) = q := by rw [← hq, b1, b2, b3]; rfl
          clear hq
          cases q
          · go_wp2_with fail
            generalize w1.alloc (.cells #[.int .i64 r1, .int .i64 r2, .int .i64 r3, .int .i64 r4, .int .i64 r5, .string r6] 25) = wz at *
            refine region_below_tail 27 (by kernel_rfl) (by kernel_rfl) ?_
            simp only [List.take_succ_cons, List.take_zero, List.drop_succ_cons, List.drop_zero]
            repeat (first | go_big_quiet_step (fail) | (refine BigFrame.wpQuiet_want (by rfl) (fun K hK => ?_); go_big_quiet_op; refine ⟨_, fun _ _ => rfl, hK _ ?_⟩; clear hK K) | (refine q_rdw 3 _ _ _ _ rfl rfl (by rfl) rfl (fun w' hw' => ld_int _ _ w' ((hw'.cell (by first | exact hV | exact hH)).trans (by assumption))) ?_; simp only [Act.put, List.setIfInBounds_toArray, List.set_cons_zero, List.set_cons_succ]) | (refine q_rdw 34 _ _ _ _ rfl rfl (by rfl) rfl (fun w' hw' => ld_locs _ _ w' ((hw'.cell (by first | exact hV | exact hH)).trans (by assumption))) ?_; simp only [Act.put, List.setIfInBounds_toArray, List.set_cons_zero, List.set_cons_succ]) | (refine q_rdw 23 _ _ (ad.add (ix.toNat * 2)) (.agg #[.int .i64 (rd_T23 l ix).f0, .int .i64 (rd_T23 l ix).f1]) rfl rfl (by rfl) rfl (fun w' hw' => ld_loc _ _ _ w' ((hw'.cell (Nat.lt_of_lt_of_le hK HB.out.size)).trans e0) ((hw'.cell (show (⟨(ad.add (ix.toNat * 2)).block, (ad.add (ix.toNat * 2)).off + 1, none⟩ : Addr).block < wz.heap.size from Nat.lt_of_lt_of_le hK HB.out.size)).trans e1)) ?_; simp only [Act.put, List.setIfInBounds_toArray, List.set_cons_zero, List.set_cons_succ]) | (refine q_rdw 23 _ _ ⟨w1.heap.size, 3, none⟩ (.agg #[.int .i64 r4, .int .i64 r5]) rfl rfl (by rfl) rfl (fun w' hw' => ld_loc _ _ _ w' ((hw'.cell hH).trans d3) ((hw'.cell (show (⟨w1.heap.size, 3 + 1, none⟩ : Addr).block < _ from hH)).trans d4)) ?_; simp only [Act.put, List.setIfInBounds_toArray, List.set_cons_zero, List.set_cons_succ]) | (refine q_val (.bool ((!(r4 == (rd_T23 l ix).f0)) || (!(r5 == (rd_T23 l ix).f1)))) (some 56) rfl (by rfl) (fun w' _ => by unfold execOp; go_simp) ?_; simp only [Act.put, List.setIfInBounds_toArray, List.set_cons_zero, List.set_cons_succ]))
            refine wpQuiet_nil ?_
            intro wn hw'
            replace HB := Aside0.mk (below2 HB.out HB.out.size hw')
            replace HH := Aside0.mk (HH.out.keep hw')
            clear hw' d0 d1 d2 d3 d4 d5 v0 v1 v3 hV hH hK hK1 e0 e1
            obtain ⟨d0, d1, d2, d3, d4, d5⟩ := six HH.out
            go_wp2_with fail
            go_ret2
            exact ⟨rfl, HB.out⟩
          · go_wp2_with fail
            generalize w1.alloc (.cells #[.int .i64 r1, .int .i64 r2, .int .i64 r3, .int .i64 r4, .int .i64 r5, .string r6] 25) = wz at *
            refine region_below_tail 27 (by kernel_rfl) (by kernel_rfl) ?_
            simp only [List.take_succ_cons, List.take_zero, List.drop_succ_cons, List.drop_zero]
            repeat (first | go_big_quiet_step (fail) | (refine BigFrame.wpQuiet_want (by rfl) (fun K hK => ?_); go_big_quiet_op; refine ⟨_, fun _ _ => rfl, hK _ ?_⟩; clear hK K) | (refine q_rdw 3 _ _ _ _ rfl rfl (by rfl) rfl (fun w' hw' => ld_int _ _ w' ((hw'.cell (by first | exact hV | exact hH)).trans (by assumption))) ?_; simp only [Act.put, List.setIfInBounds_toArray, List.set_cons_zero, List.set_cons_succ]) | (refine q_rdw 34 _ _ _ _ rfl rfl (by rfl) rfl (fun w' hw' => ld_locs _ _ w' ((hw'.cell (by first | exact hV | exact hH)).trans (by assumption))) ?_; simp only [Act.put, List.setIfInBounds_toArray, List.set_cons_zero, List.set_cons_succ]) | (refine q_rdw 23 _ _ (ad.add (ix.toNat * 2)) (.agg #[.int .i64 (rd_T23 l ix).f0, .int .i64 (rd_T23 l ix).f1]) rfl rfl (by rfl) rfl (fun w' hw' => ld_loc _ _ _ w' ((hw'.cell (Nat.lt_of_lt_of_le hK HB.out.size)).trans e0) ((hw'.cell (show (⟨(ad.add (ix.toNat * 2)).block, (ad.add (ix.toNat * 2)).off + 1, none⟩ : Addr).block < wz.heap.size from Nat.lt_of_lt_of_le hK HB.out.size)).trans e1)) ?_; simp only [Act.put, List.setIfInBounds_toArray, List.set_cons_zero, List.set_cons_succ]) | (refine q_rdw 23 _ _ ⟨w1.heap.size, 3, none⟩ (.agg #[.int .i64 r4, .int .i64 r5]) rfl rfl (by rfl) rfl (fun w' hw' => ld_loc _ _ _ w' ((hw'.cell hH).trans d3) ((hw'.cell (show (⟨w1.heap.size, 3 + 1, none⟩ : Addr).block < _ from hH)).trans d4)) ?_; simp only [Act.put, List.setIfInBounds_toArray, List.set_cons_zero, List.set_cons_succ]) | (refine q_val (.bool ((!(r4 == (rd_T23 l ix).f0)) || (!(r5 == (rd_T23 l ix).f1)))) (some 56) rfl (by rfl) (fun w' _ => by unfold execOp; go_simp) ?_; simp only [Act.put, List.setIfInBounds_toArray, List.set_cons_zero, List.set_cons_succ]))
            refine wpQuiet_nil ?_
            intro wn hw'
            replace HB := Aside0.mk (below2 HB.out HB.out.size hw')
            replace HH := Aside0.mk (HH.out.keep hw')
            clear hw' d0 d1 d2 d3 d4 d5 v0 v1 v3 hV hH hK hK1 e0 e1
            obtain ⟨d0, d1, d2, d3, d4, d5⟩ := six HH.out
            go_wp2_with fail
            go_ret2
            exact ⟨rfl, HB.out⟩
  · have t3 : (r7 == 0) = false := by simpa using he
    have t4 : (r7 != 0) = true := by simp [bne, t3]
    have HM : Hid (mineP (r1, r2, r3, r4, r5, r6, r7) V G l ix = (⟨#[]⟩, r7)) := Lib.hid (if_neg he)
    rw [HM.out]
    clear he HM
    go_enter Try.func17, Try.ntmps17
    go_wp2_with fail
    refine (rread_calls m hm _).mono ?_
    rintro e w1 ⟨rfl, b1⟩
    replace HV := Aside0.mk (HV.out.keep b1)
    replace HB := Aside0.mk (below2 HB.out HB.out.size b1)
    clear b1
    rw [HRR.out]
    clear HRR
    replace HB := Aside0.mk (below_alloc HB.out (.cells #[.int .i64 r1, .int .i64 r2, .int .i64 r3, .int .i64 r4, .int .i64 r5, .string r6] 25))
    go_wp2_with fail
    go_ret2
    exact ⟨rfl, HB.out⟩
/-- sluicegateref07_Mine, in the form in which its callers take it. -/
def sluicegateref07_Mine.f (a0 : ByteArray) (a1_0 a1_1 _a1_2 : Int) (l1_3 : List S23) (a2 : Int) : Option (ByteArray × Int) :=
  if (l1_3.length : Int) = 9 ∧ 0 ≤ a2 ∧ a2 < 9 then (if a0.size ≤ 140737488355328 then some (mineP (secR a0.data.toList) a1_0 a1_1 l1_3 a2) else none) else some (⟨#[]⟩, 1)
theorem sluicegateref07_Mine.calls (a0 : ByteArray) (a1_0 : Int) (a1_1 : Int) (a1_2 : Int) (A1_3 : Option Addr) (c1_3 : Nat) (l1_3 : List S23) (a2 : Int) (r1 : ByteArray) (r2 : Int) (w : World) (hr1_3 : Kd.C k23 w A1_3 l1_3.length l1_3) (_hc1_3 : l1_3.length ≤ c1_3) (h : sluicegateref07_Mine.f a0 a1_0 a1_1 a1_2 l1_3 a2 = some (r1, r2)) :
    Calls Try.prog 17 #[.string a0, .agg #[.int .i64 a1_0, .int .i64 a1_1, .int .i64 a1_2, .slice A1_3 l1_3.length c1_3], .int .i64 a2] w fun e w' => e = .returned (.tuple #[.string r1, .int .i64 r2]) ∧ Below w.heap.size w w' := by
  unfold sluicegateref07_Mine.f at h
  split at h
  · rename_i hg
    split at h
    · rename_i hs
      have e := Option.some.inj h
      have := rmine_good a0.data.toList (by rw [size_data]; exact hs) a1_0 a1_1 a1_2 A1_3 l1_3.length c1_3 l1_3 a2 w hr1_3 hg.1 hg.2.1 hg.2.2
      rw [e, B_eta] at this
      exact this
    · cases h
  · rename_i hg
    have e := Option.some.inj h
    simp only [Prod.mk.injEq] at e
    obtain ⟨rfl, rfl⟩ := e
    exact rmine_bad a0 a1_0 a1_1 a1_2 A1_3 l1_3.length c1_3 a2 w (by omega)
end Go.Proofs.Ytoakibpgmjebeaa
