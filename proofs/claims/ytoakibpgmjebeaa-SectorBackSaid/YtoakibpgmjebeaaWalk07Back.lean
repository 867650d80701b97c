/- SectorBack: its walk. What is written is read as it was; it is one's own just if volume, time, number and place are. -/
import Derived.Test.YtoakibpgmjebeaaSecMine
import Derived.Test.YtoakibpgmjebeaaLive07
namespace Go.Proofs.Ytoakibpgmjebeaa
open Go.RowKit Q Go.Proofs.YtoakibpgmjebeaaW.PrintWords Go.Proofs.YtoakibpgmjebeaaW.PrintLast Go.Proofs.YtoakibpgmjebeaaW.PrintMore
attribute [local go_sem high] eqA23 eqA25
section
variable {P : Program} {ops : Array Oper} {W0 : World}
theorem q_gow {o : Oper} {rest : List Oper} {Q : Act → Prop} {a : Act} {f : FuncId} {fn : Func} {ops1 : Array Operand} {ts : Array TypeId} (hf : P.funcs[f]? = some fn) (hname : (fn.name == "runtime.NumGoroutine") = false) (hb : fn.body.isSome = true) (args : Array Value) (v : Value) (N : Nat)
    (hop : o.op = .call { callee := .value (.func f), args := ops1, argTypes := ts }) (hN : o.dst = some N) (hw : Region.wanted o (yielded ops a.tmps) = true) (hargs : ops1.map a.eval = args)
    (hc : ∀ w', Below W0.heap.size W0 w' → Calls P f args w' fun e w'' => e = .returned v ∧ Below w'.heap.size w' w'')
    (h : wpQuiet P ops (Below W0.heap.size W0) Q rest (a.put (some N) v)) : wpQuiet P ops (Below W0.heap.size W0) Q (o :: rest) a := by
  refine q_call f args v (some N) hN hw (fun w' => ?_) (fun w' hw' => ?_) h
  · have h1 : fn.name ≠ "runtime.NumGoroutine" := by simpa using hname
    obtain ⟨c, hc'⟩ := Option.isSome_iff_exists.1 hb
    unfold execOp
    simp [hop, resolve, Deferred.ofValue, invoke, Act.eval, hargs, callFunc, hf, h1, hc']
  · refine (hc w' hw').mono ?_
    rintro e w'' ⟨he, hb'⟩
    exact ⟨he, hw'.trans (hb'.mono hw'.size)⟩
end
theorem ld_rhdr (g : Nat) (a b c d e : Int) (t : ByteArray) (w : World) (h : Blk w g #[.int .i64 a, .int .i64 b, .int .i64 c, .int .i64 d, .int .i64 e, .string t] 25) : (Instr.loadAt 25 (.pointer (some ⟨g, 0, none⟩))).run Try.prog w = .ok (.agg #[.int .i64 a, .int .i64 b, .int .i64 c, .int .i64 d, .int .i64 e, .string t]) w := by
  have hu25 := Try.underlying25
  have hu23 := Try.underlying23
  obtain ⟨c0, c1, c2, c3, c4, c5⟩ := six h
  go_simp
/-- What Mine answers of a header's own text. -/
theorem mine_back {T : List UInt8} {v g i d s : Int} {t : ByteArray} (hR : secR T = (v, g, i, d, s, t, 0)) (hT : T.length ≤ 140737488355328) (hi : 0 ≤ i ∧ i < 9) (V G D : Int) (l : List S23) (ix : Int) :
    ∃ q1 q2, sector_Mine.f (B T) V G D l ix = some (q1, q2) ∧ (((l.length : Int) = 9 ∧ ix = i ∧ V = v ∧ G = g ∧ (rd_T23 l i).f0 = d ∧ (rd_T23 l i).f1 = s) → q1 = t ∧ q2 = 0) ∧ (¬ ((l.length : Int) = 9 ∧ ix = i ∧ V = v ∧ G = g ∧ (rd_T23 l i).f0 = d ∧ (rd_T23 l i).f1 = s) → q2 ≠ 0) := by
  unfold sector_Mine.f
  by_cases hg : (l.length : Int) = 9 ∧ 0 ≤ ix ∧ ix < 9
  · rw [if_pos hg, if_pos (by rw [B_size]; exact hT), B_data, hR]
    by_cases hm : (l.length : Int) = 9 ∧ ix = i ∧ V = v ∧ G = g ∧ (rd_T23 l i).f0 = d ∧ (rd_T23 l i).f1 = s
    · refine ⟨t, 0, ?_, fun _ => ⟨rfl, rfl⟩, fun h => absurd hm h⟩
      obtain ⟨_, rfl, rfl, rfl, rfl, rfl⟩ := hm
      simp [mineP]
    · refine ⟨⟨#[]⟩, 4, ?_, fun h => absurd h hm, fun _ => by decide⟩
      have hq : (!(v == V) || (!(g == G) || (!(i == ix) || ((!(d == (rd_T23 l ix).f0) || (!(s == (rd_T23 l ix).f1))))))) = true := by
        by_cases h1 : v = V
        · by_cases h2 : g = G
          · by_cases h3 : i = ix
            · subst h1; subst h2; subst h3
              by_cases h4 : d = (rd_T23 l i).f0
              · by_cases h5 : s = (rd_T23 l i).f1
                · exact absurd ⟨hg.1, rfl, rfl, rfl, h4.symm, h5.symm⟩ hm
                · simp [h5]
              · simp [h4]
            · simp [h3]
          · simp [h2]
        · simp [h1]
      unfold mineP
      simp only []
      rw [if_pos trivial, if_pos hq]
  · rw [if_neg hg]
    exact ⟨_, _, rfl, fun h => absurd ⟨h.1, by omega, by omega⟩ hg, fun _ => by decide⟩
/-- The call of live answers true. -/
def Lives2 : Prop := ∀ w : World, Calls Try.prog 10 #[] w fun e w' => e = .returned (.bool true) ∧ Below w.heap.size w w'
theorem own_calls2 (v g i d s : Int) (t : ByteArray) (w : World) : Calls Try.prog 12 #[.agg #[.int .i64 v, .int .i64 g, .int .i64 i, .int .i64 d, .int .i64 s, .string t]] w fun e w' => e = .returned (.agg #[.int .i64 v, .int .i64 g, .int .i64 i, .int .i64 d, .int .i64 s, .string t]) ∧ Below w.heap.size w w' :=
  sluicegatelaw07_own.calls v g i d s t v g i d s t w rfl
set_option maxRecDepth 100000 in
set_option maxHeartbeats 2000000 in
theorem back07_out (LV : Lives2) (v g i d s : Int) (t : ByteArray) (V G D : Int) (A : Option Addr) (c : Nat) (l : List S23) (ix : Int) (w : World) (h : (t.size : Int) > 200 ∨ (t.size : Int) ≤ 200 ∧ (l.length : Int) > 20) :
    Calls Try.prog 6 #[.agg #[.int .i64 v, .int .i64 g, .int .i64 i, .int .i64 d, .int .i64 s, .string t], .agg #[.int .i64 V, .int .i64 G, .int .i64 D, .slice A l.length c], .int .i64 ix] w fun e w' => e = .returned (.bool true) ∧ Below w.heap.size w w' := by
  have hu36 := Try.underlying36
  have hu30 := Try.underlying30
  have hu25 := Try.underlying25
  have hu23 := Try.underlying23
  have HB : Aside0 (Below w.heap.size w ((w.alloc (.cells #[.int .i64 v, .int .i64 g, .int .i64 i, .int .i64 d, .int .i64 s, .string t] 25)).alloc (.cells #[.int .i64 V, .int .i64 G, .int .i64 D, .slice A l.length c] 36))) := ⟨below_alloc ((Below.refl _ _).alloc (Nat.le_refl _) _) _⟩
  rcases h with h | ⟨h, h2⟩
  · go_enter Try.func6, Try.ntmps6
    go_wp2_with fail
    refine (LV _).mono ?_
    rintro e w4 ⟨rfl, b4⟩
    replace HB := Aside0.mk (below2 HB.out HB.out.size b4)
    go_wp2_with fail
    go_ret
    exact ⟨rfl, HB.out⟩
  · go_enter Try.func6, Try.ntmps6
    go_wp2_with fail
    refine (LV _).mono ?_
    rintro e w4 ⟨rfl, b4⟩
    replace HB := Aside0.mk (below2 HB.out HB.out.size b4)
    go_wp2_with fail
    go_ret
    exact ⟨rfl, HB.out⟩
set_option maxRecDepth 100000 in
set_option maxHeartbeats 2000000 in
theorem back07_bad (LV : Lives2) (v g i d s : Int) (t : ByteArray) (V G D : Int) (A : Option Addr) (c : Nat) (l : List S23) (ix : Int) (w : World) (y : Int) (h1 : (t.size : Int) ≤ 200) (h2 : (l.length : Int) ≤ 20) (hw : secW v g i d s t = (B [], y)) (hy : y ≠ 0) :
    Calls Try.prog 6 #[.agg #[.int .i64 v, .int .i64 g, .int .i64 i, .int .i64 d, .int .i64 s, .string t], .agg #[.int .i64 V, .int .i64 G, .int .i64 D, .slice A l.length c], .int .i64 ix] w fun e w' => e = .returned (.bool true) ∧ Below w.heap.size w w' := by
  have hu36 := Try.underlying36
  have hu30 := Try.underlying30
  have hu25 := Try.underlying25
  have hu23 := Try.underlying23
  have HB : Aside0 (Below w.heap.size w ((w.alloc (.cells #[.int .i64 v, .int .i64 g, .int .i64 i, .int .i64 d, .int .i64 s, .string t] 25)).alloc (.cells #[.int .i64 V, .int .i64 G, .int .i64 D, .slice A l.length c] 36))) := ⟨below_alloc ((Below.refl _ _).alloc (Nat.le_refl _) _) _⟩
  have t1 : (y == 0) = false := by simpa using hy
  have t2 : (y != 0) = true := by simp [bne, t1]
  have ht := Lib.hid hw
  have hb0 : (B []).toList = [] := by rw [B_toList]
  clear hw hy
  go_enter Try.func6, Try.ntmps6
  go_wp2_with fail
  refine (own_calls2 v g i d s t _).mono ?_
  rintro e w0 ⟨rfl, b0⟩
  replace HB := Aside0.mk (below2 HB.out HB.out.size b0)
  clear b0
  go_wp2_with fail
  refine (write_calls v g i d s t _).mono ?_
  rintro e w1 ⟨rfl, b1⟩
  rw [ht.out]
  replace HB := Aside0.mk (below2 HB.out HB.out.size b1)
  clear b1
  go_wp2_with fail
  refine (LV _).mono ?_
  rintro e w4 ⟨rfl, b4⟩
  replace HB := Aside0.mk (below2 HB.out HB.out.size b4)
  go_wp2_with fail
  go_ret
  exact ⟨rfl, HB.out⟩
set_option maxRecDepth 100000 in
set_option maxHeartbeats 2000000 in
theorem back07_in (LV : Lives2) (v g i d s : Int) (t : ByteArray) (V G D : Int) (A : Option Addr) (c : Nat) (l : List S23) (ix : Int) (w : World) (T : List UInt8) (q1 : ByteArray) (q2 : Int) (h1 : (t.size : Int) ≤ 200) (h2 : (l.length : Int) ≤ 20) (hr : Kd.C k23 w A l.length l) (hc : l.length ≤ c) (hi0 : 0 ≤ i) (hi9 : i < 9) (hT : T.length ≤ 140737488355328) (hw : secW v g i d s t = (B T, 0)) (hR : secR T = (v, g, i, d, s, t, 0)) (hM : sector_Mine.f (B T) V G D l ix = some (q1, q2))
    (hm1 : ((l.length : Int) = 9 ∧ ix = i ∧ V = v ∧ G = g ∧ (rd_T23 l i).f0 = d ∧ (rd_T23 l i).f1 = s) → q1 = t ∧ q2 = 0) (hm2 : ¬ ((l.length : Int) = 9 ∧ ix = i ∧ V = v ∧ G = g ∧ (rd_T23 l i).f0 = d ∧ (rd_T23 l i).f1 = s) → q2 ≠ 0) :
    Calls Try.prog 6 #[.agg #[.int .i64 v, .int .i64 g, .int .i64 i, .int .i64 d, .int .i64 s, .string t], .agg #[.int .i64 V, .int .i64 G, .int .i64 D, .slice A l.length c], .int .i64 ix] w fun e w' => e = .returned (.bool true) ∧ Below w.heap.size w w' := by
  have hu36 := Try.underlying36
  have hu30 := Try.underlying30
  have hu25 := Try.underlying25
  have hu23 := Try.underlying23
  have HB : Aside0 (Below w.heap.size w ((w.alloc (.cells #[.int .i64 v, .int .i64 g, .int .i64 i, .int .i64 d, .int .i64 s, .string t] 25)).alloc (.cells #[.int .i64 V, .int .i64 G, .int .i64 D, .slice A l.length c] 36))) := ⟨below_alloc ((Below.refl _ _).alloc (Nat.le_refl _) _) _⟩
  have HH : Aside0 (Blk ((w.alloc (.cells #[.int .i64 v, .int .i64 g, .int .i64 i, .int .i64 d, .int .i64 s, .string t] 25)).alloc (.cells #[.int .i64 V, .int .i64 G, .int .i64 D, .slice A l.length c] 36)) w.heap.size #[.int .i64 v, .int .i64 g, .int .i64 i, .int .i64 d, .int .i64 s, .string t] 25) := ⟨(Blk.new w _ _).alloc _⟩
  have HV : Aside0 (Blk ((w.alloc (.cells #[.int .i64 v, .int .i64 g, .int .i64 i, .int .i64 d, .int .i64 s, .string t] 25)).alloc (.cells #[.int .i64 V, .int .i64 G, .int .i64 D, .slice A l.length c] 36)) (w.alloc (.cells #[.int .i64 v, .int .i64 g, .int .i64 i, .int .i64 d, .int .i64 s, .string t] 25)).heap.size #[.int .i64 V, .int .i64 G, .int .i64 D, .slice A l.length c] 36) := ⟨Blk.new _ _ _⟩
  have HS : (w.alloc (.cells #[.int .i64 v, .int .i64 g, .int .i64 i, .int .i64 d, .int .i64 s, .string t] 25)).heap.size = w.heap.size + 1 := World.size_alloc _ _
  rw [HS] at HV
  clear HS
  have HC := Lib.hid hr
  have ht := Lib.hid hw
  have HR := Lib.hid hR
  have HM := Aside0.mk hM
  have HT := Lib.hid hT
  have HN1 := Lib.hid hm1
  have HN2 := Lib.hid hm2
  have HCC := Lib.hid hc
  clear hr hw hR hM hT hm1 hm2 hc
  go_enter Try.func6, Try.ntmps6
  go_wp2_with fail
  refine (own_calls2 v g i d s t _).mono ?_
  rintro e w0 ⟨rfl, b0⟩
  replace HB := Aside0.mk (below2 HB.out HB.out.size b0)
  replace HH := Aside0.mk (HH.out.keep b0)
  replace HV := Aside0.mk (HV.out.keep b0)
  clear b0
  go_wp2_with fail
  refine (write_calls v g i d s t _).mono ?_
  rintro e w1 ⟨rfl, b1⟩
  rw [ht.out]
  replace HB := Aside0.mk (below2 HB.out HB.out.size b1)
  replace HH := Aside0.mk (HH.out.keep b1)
  replace HV := Aside0.mk (HV.out.keep b1)
  clear b1
  go_wp2_with fail
  refine (read_calls T HT.out _).mono ?_
  rintro e w2 ⟨rfl, b2⟩
  rw [HR.out]
  replace HB := Aside0.mk (below2 HB.out HB.out.size b2)
  replace HH := Aside0.mk (HH.out.keep b2)
  replace HV := Aside0.mk (HV.out.keep b2)
  clear b2
  have HX := Aside0.mk (Blk.new w2 #[.int .i64 v, .int .i64 g, .int .i64 i, .int .i64 d, .int .i64 s, .string t] 30)
  replace HB := Aside0.mk (below_alloc HB.out (.cells #[.int .i64 v, .int .i64 g, .int .i64 i, .int .i64 d, .int .i64 s, .string t] 30))
  replace HH := Aside0.mk (HH.out.alloc (.cells #[.int .i64 v, .int .i64 g, .int .i64 i, .int .i64 d, .int .i64 s, .string t] 30))
  replace HV := Aside0.mk (HV.out.alloc (.cells #[.int .i64 v, .int .i64 g, .int .i64 i, .int .i64 d, .int .i64 s, .string t] 30))
  have v0 := HV.out.cell (i := 0) (v := .int .i64 V) rfl
  have v1 := HV.out.cell (i := 1) (v := .int .i64 G) rfl
  have v2 := HV.out.cell (i := 2) (v := .int .i64 D) rfl
  have v3 := HV.out.cell (i := 3) (v := .slice A l.length c) rfl
  go_wp2_with fail
  clear v0 v1 v2 v3
  refine (sector_Mine.calls (B T) V G D A c l ix q1 q2 _ ?_ HCC.out HM.out).mono ?_
  · exact Kd.C_below HC.out HB.out
  rintro e wz ⟨rfl, b3⟩
  replace HB := Aside0.mk (below2 HB.out HB.out.size b3)
  replace HH := Aside0.mk (HH.out.keep b3)
  replace HV := Aside0.mk (HV.out.keep b3)
  replace HX := Aside0.mk (HX.out.keep b3)
  clear b3
  generalize w2.heap.size = gx at *
  obtain ⟨d0, d1, d2, d3, d4, d5⟩ := six HH.out
  have v0 := HV.out.cell (i := 0) (v := .int .i64 V) rfl
  have v1 := HV.out.cell (i := 1) (v := .int .i64 G) rfl
  have v3 := HV.out.cell (i := 3) (v := .slice A l.length c) rfl
  have hV := HV.out.lt
  have hH := HH.out.lt
  cases b0 : ((l.length : Int) == 9) with
  | false =>
    have hz : (q2 == 0) = false := by
      have := HN2.out (fun ⟨p0, p1, p2, p3, p4, p5⟩ => by simp [p0] at b0)
      simpa using this
    go_wp2_with fail
    refine region_below_tail 35 (by kernel_rfl) (by kernel_rfl) ?_
    simp only [List.take_succ_cons, List.take_zero, List.drop_succ_cons, List.drop_zero]
    repeat (first | go_big_quiet_step (fail) | (refine BigFrame.wpQuiet_want (by rfl) (fun K hK => ?_); go_big_quiet_op; refine ⟨_, fun _ _ => rfl, hK _ ?_⟩; clear hK K) | (refine q_rdw 3 _ _ _ _ rfl rfl (by rfl) rfl (fun w' hw' => ld_int _ _ w' ((hw'.cell (by first | exact hV | exact hH)).trans (by assumption))) ?_; simp only [Act.put, List.setIfInBounds_toArray, List.set_cons_zero, List.set_cons_succ]) | (refine q_rdw 34 _ _ _ _ rfl rfl (by rfl) rfl (fun w' hw' => ld_locs _ _ w' ((hw'.cell hV).trans (by assumption))) ?_; simp only [Act.put, List.setIfInBounds_toArray, List.set_cons_zero, List.set_cons_succ]))
    refine wpQuiet_nil ?_
    intro wn hw'
    replace HB := Aside0.mk (below2 HB.out HB.out.size hw')
    replace HH := Aside0.mk (HH.out.keep hw')
    replace HX := Aside0.mk (HX.out.keep hw')
    clear hw' d0 d1 d2 d3 d4 d5 v0 v1 v3 hV hH
    obtain ⟨d0, d1, d2, d3, d4, d5⟩ := six HH.out
    have hH := HH.out.lt
    go_wp2_with fail
    refine region_below_tail 27 (by kernel_rfl) (by kernel_rfl) ?_
    simp only [List.take_succ_cons, List.take_zero, List.drop_succ_cons, List.drop_zero]
    repeat (first | go_big_quiet_step (fail) | (refine BigFrame.wpQuiet_want (by rfl) (fun K hK => ?_); go_big_quiet_op; refine ⟨_, fun _ _ => rfl, hK _ ?_⟩; clear hK K) | (refine q_rdw 30 _ _ ⟨gx, 0, none⟩ (.agg #[.int .i64 v, .int .i64 g, .int .i64 i, .int .i64 d, .int .i64 s, .string t]) rfl rfl (by rfl) rfl (fun w' hw' => ld_hdr gx v g i d s t w' (HX.out.keep hw')) ?_; simp only [Act.put, List.setIfInBounds_toArray, List.set_cons_zero, List.set_cons_succ]) | (refine q_rdw 25 _ _ ⟨w.heap.size, 0, none⟩ (.agg #[.int .i64 v, .int .i64 g, .int .i64 i, .int .i64 d, .int .i64 s, .string t]) rfl rfl (by rfl) rfl (fun w' hw' => ld_rhdr _ v g i d s t w' (HH.out.keep hw')) ?_; simp only [Act.put, List.setIfInBounds_toArray, List.set_cons_zero, List.set_cons_succ]) | (refine q_rdw 9 _ _ _ _ rfl rfl (by rfl) rfl (fun w' hw' => ld_str _ _ w' ((hw'.cell (by exact hH)).trans (by assumption))) ?_; simp only [Act.put, List.setIfInBounds_toArray, List.set_cons_zero, List.set_cons_succ]) | (refine q_go (f := 18) Try.func18 (by kernel_rfl) rfl #[.agg #[.int .i64 v, .int .i64 g, .int .i64 i, .int .i64 d, .int .i64 s, .string t]] _ _ rfl rfl rfl (by simp only [List.map_toArray, List.map_cons, List.map_nil]; rfl) (fun w' _ => sluicegatelaw07_told.calls v g i d s t v g i d s t w' rfl) ?_; simp only [Act.put, List.setIfInBounds_toArray, List.set_cons_zero, List.set_cons_succ]) | (refine q_gow (f := 10) Try.func10 (by kernel_rfl) rfl #[] _ _ rfl rfl (by rfl) (by first | exact Array.map_empty | simp) (fun w' _ => LV w') ?_; simp only [Act.put, List.setIfInBounds_toArray, List.set_cons_zero, List.set_cons_succ]) | (refine q_val (.bool true) (some 88) rfl (by rfl) (fun w' _ => by unfold execOp; go_simp) ?_; simp only [Act.put, List.setIfInBounds_toArray, List.set_cons_zero, List.set_cons_succ]) | (refine q_val (.bool true) (some 106) rfl (by rfl) (fun w' _ => by unfold execOp; go_simp) ?_; simp only [Act.put, List.setIfInBounds_toArray, List.set_cons_zero, List.set_cons_succ]))
    refine wpQuiet_nil ?_
    intro wm hw'
    replace HB := Aside0.mk (below2 HB.out HB.out.size hw')
    go_wp2_with fail
    go_ret
    exact ⟨rfl, HB.out⟩
  | true =>
    cases b1 : (ix == i) with
    | false =>
      have hz : (q2 == 0) = false := by
        have := HN2.out (fun ⟨p0, p1, p2, p3, p4, p5⟩ => by simp [p1] at b1)
        simpa using this
      go_wp2_with fail
      refine region_below_tail 35 (by kernel_rfl) (by kernel_rfl) ?_
      simp only [List.take_succ_cons, List.take_zero, List.drop_succ_cons, List.drop_zero]
      repeat (first | go_big_quiet_step (fail) | (refine BigFrame.wpQuiet_want (by rfl) (fun K hK => ?_); go_big_quiet_op; refine ⟨_, fun _ _ => rfl, hK _ ?_⟩; clear hK K) | (refine q_rdw 3 _ _ _ _ rfl rfl (by rfl) rfl (fun w' hw' => ld_int _ _ w' ((hw'.cell (by first | exact hV | exact hH)).trans (by assumption))) ?_; simp only [Act.put, List.setIfInBounds_toArray, List.set_cons_zero, List.set_cons_succ]) | (refine q_rdw 34 _ _ _ _ rfl rfl (by rfl) rfl (fun w' hw' => ld_locs _ _ w' ((hw'.cell hV).trans (by assumption))) ?_; simp only [Act.put, List.setIfInBounds_toArray, List.set_cons_zero, List.set_cons_succ]))
      refine wpQuiet_nil ?_
      intro wn hw'
      replace HB := Aside0.mk (below2 HB.out HB.out.size hw')
      replace HH := Aside0.mk (HH.out.keep hw')
      replace HX := Aside0.mk (HX.out.keep hw')
      clear hw' d0 d1 d2 d3 d4 d5 v0 v1 v3 hV hH
      obtain ⟨d0, d1, d2, d3, d4, d5⟩ := six HH.out
      have hH := HH.out.lt
      go_wp2_with fail
      refine region_below_tail 27 (by kernel_rfl) (by kernel_rfl) ?_
      simp only [List.take_succ_cons, List.take_zero, List.drop_succ_cons, List.drop_zero]
      repeat (first | go_big_quiet_step (fail) | (refine BigFrame.wpQuiet_want (by rfl) (fun K hK => ?_); go_big_quiet_op; refine ⟨_, fun _ _ => rfl, hK _ ?_⟩; clear hK K) | (refine q_rdw 30 _ _ ⟨gx, 0, none⟩ (.agg #[.int .i64 v, .int .i64 g, .int .i64 i, .int .i64 d, .int .i64 s, .string t]) rfl rfl (by rfl) rfl (fun w' hw' => ld_hdr gx v g i d s t w' (HX.out.keep hw')) ?_; simp only [Act.put, List.setIfInBounds_toArray, List.set_cons_zero, List.set_cons_succ]) | (refine q_rdw 25 _ _ ⟨w.heap.size, 0, none⟩ (.agg #[.int .i64 v, .int .i64 g, .int .i64 i, .int .i64 d, .int .i64 s, .string t]) rfl rfl (by rfl) rfl (fun w' hw' => ld_rhdr _ v g i d s t w' (HH.out.keep hw')) ?_; simp only [Act.put, List.setIfInBounds_toArray, List.set_cons_zero, List.set_cons_succ]) | (refine q_rdw 9 _ _ _ _ rfl rfl (by rfl) rfl (fun w' hw' => ld_str _ _ w' ((hw'.cell (by exact hH)).trans (by assumption))) ?_; simp only [Act.put, List.setIfInBounds_toArray, List.set_cons_zero, List.set_cons_succ]) | (refine q_go (f := 18) Try.func18 (by kernel_rfl) rfl #[.agg #[.int .i64 v, .int .i64 g, .int .i64 i, .int .i64 d, .int .i64 s, .string t]] _ _ rfl rfl rfl (by simp only [List.map_toArray, List.map_cons, List.map_nil]; rfl) (fun w' _ => sluicegatelaw07_told.calls v g i d s t v g i d s t w' rfl) ?_; simp only [Act.put, List.setIfInBounds_toArray, List.set_cons_zero, List.set_cons_succ]) | (refine q_gow (f := 10) Try.func10 (by kernel_rfl) rfl #[] _ _ rfl rfl (by rfl) (by first | exact Array.map_empty | simp) (fun w' _ => LV w') ?_; simp only [Act.put, List.setIfInBounds_toArray, List.set_cons_zero, List.set_cons_succ]) | (refine q_val (.bool true) (some 88) rfl (by rfl) (fun w' _ => by unfold execOp; go_simp) ?_; simp only [Act.put, List.setIfInBounds_toArray, List.set_cons_zero, List.set_cons_succ]) | (refine q_val (.bool true) (some 106) rfl (by rfl) (fun w' _ => by unfold execOp; go_simp) ?_; simp only [Act.put, List.setIfInBounds_toArray, List.set_cons_zero, List.set_cons_succ]))
      refine wpQuiet_nil ?_
      intro wm hw'
      replace HB := Aside0.mk (below2 HB.out HB.out.size hw')
      go_wp2_with fail
      go_ret
      exact ⟨rfl, HB.out⟩
    | true =>
      cases b2 : (V == v) with
      | false =>
        have hz : (q2 == 0) = false := by
          have := HN2.out (fun ⟨p0, p1, p2, p3, p4, p5⟩ => by simp [p2] at b2)
          simpa using this
        go_wp2_with fail
        refine region_below_tail 35 (by kernel_rfl) (by kernel_rfl) ?_
        simp only [List.take_succ_cons, List.take_zero, List.drop_succ_cons, List.drop_zero]
        repeat (first | go_big_quiet_step (fail) | (refine BigFrame.wpQuiet_want (by rfl) (fun K hK => ?_); go_big_quiet_op; refine ⟨_, fun _ _ => rfl, hK _ ?_⟩; clear hK K) | (refine q_rdw 3 _ _ _ _ rfl rfl (by rfl) rfl (fun w' hw' => ld_int _ _ w' ((hw'.cell (by first | exact hV | exact hH)).trans (by assumption))) ?_; simp only [Act.put, List.setIfInBounds_toArray, List.set_cons_zero, List.set_cons_succ]) | (refine q_rdw 34 _ _ _ _ rfl rfl (by rfl) rfl (fun w' hw' => ld_locs _ _ w' ((hw'.cell hV).trans (by assumption))) ?_; simp only [Act.put, List.setIfInBounds_toArray, List.set_cons_zero, List.set_cons_succ]))
        refine wpQuiet_nil ?_
        intro wn hw'
        replace HB := Aside0.mk (below2 HB.out HB.out.size hw')
        replace HH := Aside0.mk (HH.out.keep hw')
        replace HX := Aside0.mk (HX.out.keep hw')
        clear hw' d0 d1 d2 d3 d4 d5 v0 v1 v3 hV hH
        obtain ⟨d0, d1, d2, d3, d4, d5⟩ := six HH.out
        have hH := HH.out.lt
        go_wp2_with fail
        refine region_below_tail 27 (by kernel_rfl) (by kernel_rfl) ?_
        simp only [List.take_succ_cons, List.take_zero, List.drop_succ_cons, List.drop_zero]
        repeat (first | go_big_quiet_step (fail) | (refine BigFrame.wpQuiet_want (by rfl) (fun K hK => ?_); go_big_quiet_op; refine ⟨_, fun _ _ => rfl, hK _ ?_⟩; clear hK K) | (refine q_rdw 30 _ _ ⟨gx, 0, none⟩ (.agg #[.int .i64 v, .int .i64 g, .int .i64 i, .int .i64 d, .int .i64 s, .string t]) rfl rfl (by rfl) rfl (fun w' hw' => ld_hdr gx v g i d s t w' (HX.out.keep hw')) ?_; simp only [Act.put, List.setIfInBounds_toArray, List.set_cons_zero, List.set_cons_succ]) | (refine q_rdw 25 _ _ ⟨w.heap.size, 0, none⟩ (.agg #[.int .i64 v, .int .i64 g, .int .i64 i, .int .i64 d, .int .i64 s, .string t]) rfl rfl (by rfl) rfl (fun w' hw' => ld_rhdr _ v g i d s t w' (HH.out.keep hw')) ?_; simp only [Act.put, List.setIfInBounds_toArray, List.set_cons_zero, List.set_cons_succ]) | (refine q_rdw 9 _ _ _ _ rfl rfl (by rfl) rfl (fun w' hw' => ld_str _ _ w' ((hw'.cell (by exact hH)).trans (by assumption))) ?_; simp only [Act.put, List.setIfInBounds_toArray, List.set_cons_zero, List.set_cons_succ]) | (refine q_go (f := 18) Try.func18 (by kernel_rfl) rfl #[.agg #[.int .i64 v, .int .i64 g, .int .i64 i, .int .i64 d, .int .i64 s, .string t]] _ _ rfl rfl rfl (by simp only [List.map_toArray, List.map_cons, List.map_nil]; rfl) (fun w' _ => sluicegatelaw07_told.calls v g i d s t v g i d s t w' rfl) ?_; simp only [Act.put, List.setIfInBounds_toArray, List.set_cons_zero, List.set_cons_succ]) | (refine q_gow (f := 10) Try.func10 (by kernel_rfl) rfl #[] _ _ rfl rfl (by rfl) (by first | exact Array.map_empty | simp) (fun w' _ => LV w') ?_; simp only [Act.put, List.setIfInBounds_toArray, List.set_cons_zero, List.set_cons_succ]) | (refine q_val (.bool true) (some 88) rfl (by rfl) (fun w' _ => by unfold execOp; go_simp) ?_; simp only [Act.put, List.setIfInBounds_toArray, List.set_cons_zero, List.set_cons_succ]) | (refine q_val (.bool true) (some 106) rfl (by rfl) (fun w' _ => by unfold execOp; go_simp) ?_; simp only [Act.put, List.setIfInBounds_toArray, List.set_cons_zero, List.set_cons_succ]))
        refine wpQuiet_nil ?_
        intro wm hw'
        replace HB := Aside0.mk (below2 HB.out HB.out.size hw')
        go_wp2_with fail
        go_ret
        exact ⟨rfl, HB.out⟩
      | true =>
        cases b3 : (G == g) with
        | false =>
          have hz : (q2 == 0) = false := by
            have := HN2.out (fun ⟨p0, p1, p2, p3, p4, p5⟩ => by simp [p3] at b3)
            simpa using this
          go_wp2_with fail
          refine region_below_tail 35 (by kernel_rfl) (by kernel_rfl) ?_
          simp only [List.take_succ_cons, List.take_zero, List.drop_succ_cons, List.drop_zero]
          repeat (first | go_big_quiet_step (fail) | (refine BigFrame.wpQuiet_want (by rfl) (fun K hK => ?_); go_big_quiet_op; refine ⟨_, fun _ _ => rfl, hK _ ?_⟩; clear hK K) | (refine q_rdw 3 _ _ _ _ rfl rfl (by rfl) rfl (fun w' hw' => ld_int _ _ w' ((hw'.cell (by first | exact hV | exact hH)).trans (by assumption))) ?_; simp only [Act.put, List.setIfInBounds_toArray, List.set_cons_zero, List.set_cons_succ]) | (refine q_rdw 34 _ _ _ _ rfl rfl (by rfl) rfl (fun w' hw' => ld_locs _ _ w' ((hw'.cell hV).trans (by assumption))) ?_; simp only [Act.put, List.setIfInBounds_toArray, List.set_cons_zero, List.set_cons_succ]))
          refine wpQuiet_nil ?_
          intro wn hw'
          replace HB := Aside0.mk (below2 HB.out HB.out.size hw')
          replace HH := Aside0.mk (HH.out.keep hw')
          replace HX := Aside0.mk (HX.out.keep hw')
          clear hw' d0 d1 d2 d3 d4 d5 v0 v1 v3 hV hH
          obtain ⟨d0, d1, d2, d3, d4, d5⟩ := six HH.out
          have hH := HH.out.lt
          go_wp2_with fail
          refine region_below_tail 27 (by kernel_rfl) (by kernel_rfl) ?_
          simp only [List.take_succ_cons, List.take_zero, List.drop_succ_cons, List.drop_zero]
          repeat (first | go_big_quiet_step (fail) | (refine BigFrame.wpQuiet_want (by rfl) (fun K hK => ?_); go_big_quiet_op; refine ⟨_, fun _ _ => rfl, hK _ ?_⟩; clear hK K) | (refine q_rdw 30 _ _ ⟨gx, 0, none⟩ (.agg #[.int .i64 v, .int .i64 g, .int .i64 i, .int .i64 d, .int .i64 s, .string t]) rfl rfl (by rfl) rfl (fun w' hw' => ld_hdr gx v g i d s t w' (HX.out.keep hw')) ?_; simp only [Act.put, List.setIfInBounds_toArray, List.set_cons_zero, List.set_cons_succ]) | (refine q_rdw 25 _ _ ⟨w.heap.size, 0, none⟩ (.agg #[.int .i64 v, .int .i64 g, .int .i64 i, .int .i64 d, .int .i64 s, .string t]) rfl rfl (by rfl) rfl (fun w' hw' => ld_rhdr _ v g i d s t w' (HH.out.keep hw')) ?_; simp only [Act.put, List.setIfInBounds_toArray, List.set_cons_zero, List.set_cons_succ]) | (refine q_rdw 9 _ _ _ _ rfl rfl (by rfl) rfl (fun w' hw' => ld_str _ _ w' ((hw'.cell (by exact hH)).trans (by assumption))) ?_; simp only [Act.put, List.setIfInBounds_toArray, List.set_cons_zero, List.set_cons_succ]) | (refine q_go (f := 18) Try.func18 (by kernel_rfl) rfl #[.agg #[.int .i64 v, .int .i64 g, .int .i64 i, .int .i64 d, .int .i64 s, .string t]] _ _ rfl rfl rfl (by simp only [List.map_toArray, List.map_cons, List.map_nil]; rfl) (fun w' _ => sluicegatelaw07_told.calls v g i d s t v g i d s t w' rfl) ?_; simp only [Act.put, List.setIfInBounds_toArray, List.set_cons_zero, List.set_cons_succ]) | (refine q_gow (f := 10) Try.func10 (by kernel_rfl) rfl #[] _ _ rfl rfl (by rfl) (by first | exact Array.map_empty | simp) (fun w' _ => LV w') ?_; simp only [Act.put, List.setIfInBounds_toArray, List.set_cons_zero, List.set_cons_succ]) | (refine q_val (.bool true) (some 88) rfl (by rfl) (fun w' _ => by unfold execOp; go_simp) ?_; simp only [Act.put, List.setIfInBounds_toArray, List.set_cons_zero, List.set_cons_succ]) | (refine q_val (.bool true) (some 106) rfl (by rfl) (fun w' _ => by unfold execOp; go_simp) ?_; simp only [Act.put, List.setIfInBounds_toArray, List.set_cons_zero, List.set_cons_succ]))
          refine wpQuiet_nil ?_
          intro wm hw'
          replace HB := Aside0.mk (below2 HB.out HB.out.size hw')
          go_wp2_with fail
          go_ret
          exact ⟨rfl, HB.out⟩
        | true =>
          have e9 : (l.length : Int) = 9 := by simpa using b0
          obtain rfl : ix = i := by simpa using b1
          obtain rfl : V = v := by simpa using b2
          obtain rfl : G = g := by simpa using b3
          obtain ⟨ad, hA, k0, k1⟩ := at_T23 HC.out ix hi0 (by omega)
          have K0 := Lib.hid k0
          have K1 := Lib.hid k1
          have hK : (ad.add (ix.toNat * 2)).block < w.heap.size := lt_cell K0.out
          have e0 := (HB.out.cell hK).trans K0.out
          have e1 := (HB.out.cell (lt_cell K1.out)).trans K1.out
          clear k0 k1
          subst hA
          cases hq : ((rd_T23 l ix).f0 == d && (rd_T23 l ix).f1 == s) with
          | false =>
            have hz : (q2 == 0) = false := by
              have := HN2.out (fun ⟨p0, p1, p2, p3, p4, p5⟩ => by simp [p4, p5] at hq)
              simpa using this
            go_wp2_with fail
            refine region_below_tail 35 (by kernel_rfl) (by kernel_rfl) ?_
            simp only [List.take_succ_cons, List.take_zero, List.drop_succ_cons, List.drop_zero]
            repeat (first | go_big_quiet_step (fail) | (refine BigFrame.wpQuiet_want (by rfl) (fun K hK => ?_); go_big_quiet_op; refine ⟨_, fun _ _ => rfl, hK _ ?_⟩; clear hK K) | (refine q_rdw 3 _ _ _ _ rfl rfl (by rfl) rfl (fun w' hw' => ld_int _ _ w' ((hw'.cell (by first | exact hV | exact hH)).trans (by assumption))) ?_; simp only [Act.put, List.setIfInBounds_toArray, List.set_cons_zero, List.set_cons_succ]) | (refine q_rdw 34 _ _ _ _ rfl rfl (by rfl) rfl (fun w' hw' => ld_locs _ _ w' ((hw'.cell hV).trans (by assumption))) ?_; simp only [Act.put, List.setIfInBounds_toArray, List.set_cons_zero, List.set_cons_succ]) | (refine q_rdw 23 _ _ (ad.add (ix.toNat * 2)) (.agg #[.int .i64 (rd_T23 l ix).f0, .int .i64 (rd_T23 l ix).f1]) rfl rfl (by rfl) rfl (fun w' hw' => ld_loc _ _ _ w' ((hw'.cell (Nat.lt_of_lt_of_le hK HB.out.size)).trans e0) ((hw'.cell (show (⟨(ad.add (ix.toNat * 2)).block, (ad.add (ix.toNat * 2)).off + 1, none⟩ : Addr).block < wz.heap.size from Nat.lt_of_lt_of_le hK HB.out.size)).trans e1)) ?_; simp only [Act.put, List.setIfInBounds_toArray, List.set_cons_zero, List.set_cons_succ]) | (refine q_rdw 23 _ _ ⟨w.heap.size, 3, none⟩ (.agg #[.int .i64 d, .int .i64 s]) rfl rfl (by rfl) rfl (fun w' hw' => ld_loc _ _ _ w' ((hw'.cell hH).trans d3) ((hw'.cell (show (⟨w.heap.size, 3 + 1, none⟩ : Addr).block < _ from hH)).trans d4)) ?_; simp only [Act.put, List.setIfInBounds_toArray, List.set_cons_zero, List.set_cons_succ]) | (refine q_val (.bool ((rd_T23 l ix).f0 == d && (rd_T23 l ix).f1 == s)) (some 83) rfl (by rfl) (fun w' _ => by unfold execOp; go_simp) ?_; rw [hq]; simp only [Act.put, List.setIfInBounds_toArray, List.set_cons_zero, List.set_cons_succ]))
            refine wpQuiet_nil ?_
            intro wn hw'
            replace HB := Aside0.mk (below2 HB.out HB.out.size hw')
            replace HH := Aside0.mk (HH.out.keep hw')
            replace HX := Aside0.mk (HX.out.keep hw')
            clear hw' d0 d1 d2 d3 d4 d5 v0 v1 v3 hV hH
            obtain ⟨d0, d1, d2, d3, d4, d5⟩ := six HH.out
            have hH := HH.out.lt
            go_wp2_with fail
            refine region_below_tail 27 (by kernel_rfl) (by kernel_rfl) ?_
            simp only [List.take_succ_cons, List.take_zero, List.drop_succ_cons, List.drop_zero]
            repeat (first | go_big_quiet_step (fail) | (refine BigFrame.wpQuiet_want (by rfl) (fun K hK => ?_); go_big_quiet_op; refine ⟨_, fun _ _ => rfl, hK _ ?_⟩; clear hK K) | (refine q_rdw 30 _ _ ⟨gx, 0, none⟩ (.agg #[.int .i64 V, .int .i64 G, .int .i64 ix, .int .i64 d, .int .i64 s, .string t]) rfl rfl (by rfl) rfl (fun w' hw' => ld_hdr gx V G ix d s t w' (HX.out.keep hw')) ?_; simp only [Act.put, List.setIfInBounds_toArray, List.set_cons_zero, List.set_cons_succ]) | (refine q_rdw 25 _ _ ⟨w.heap.size, 0, none⟩ (.agg #[.int .i64 V, .int .i64 G, .int .i64 ix, .int .i64 d, .int .i64 s, .string t]) rfl rfl (by rfl) rfl (fun w' hw' => ld_rhdr _ V G ix d s t w' (HH.out.keep hw')) ?_; simp only [Act.put, List.setIfInBounds_toArray, List.set_cons_zero, List.set_cons_succ]) | (refine q_rdw 9 _ _ _ _ rfl rfl (by rfl) rfl (fun w' hw' => ld_str _ _ w' ((hw'.cell (by exact hH)).trans (by assumption))) ?_; simp only [Act.put, List.setIfInBounds_toArray, List.set_cons_zero, List.set_cons_succ]) | (refine q_go (f := 18) Try.func18 (by kernel_rfl) rfl #[.agg #[.int .i64 V, .int .i64 G, .int .i64 ix, .int .i64 d, .int .i64 s, .string t]] _ _ rfl rfl rfl (by simp only [List.map_toArray, List.map_cons, List.map_nil]; rfl) (fun w' _ => sluicegatelaw07_told.calls V G ix d s t V G ix d s t w' rfl) ?_; simp only [Act.put, List.setIfInBounds_toArray, List.set_cons_zero, List.set_cons_succ]) | (refine q_gow (f := 10) Try.func10 (by kernel_rfl) rfl #[] _ _ rfl rfl (by rfl) (by first | exact Array.map_empty | simp) (fun w' _ => LV w') ?_; simp only [Act.put, List.setIfInBounds_toArray, List.set_cons_zero, List.set_cons_succ]) | (refine q_val (.bool true) (some 88) rfl (by rfl) (fun w' _ => by unfold execOp; go_simp) ?_; simp only [Act.put, List.setIfInBounds_toArray, List.set_cons_zero, List.set_cons_succ]) | (refine q_val (.bool true) (some 106) rfl (by rfl) (fun w' _ => by unfold execOp; go_simp) ?_; simp only [Act.put, List.setIfInBounds_toArray, List.set_cons_zero, List.set_cons_succ]))
            refine wpQuiet_nil ?_
            intro wm hw'
            replace HB := Aside0.mk (below2 HB.out HB.out.size hw')
            go_wp2_with fail
            go_ret
            exact ⟨rfl, HB.out⟩
          | true =>
            have hq2 : (rd_T23 l ix).f0 = d ∧ (rd_T23 l ix).f1 = s := by simpa using hq
            obtain ⟨rfl, rfl⟩ := HN1.out ⟨e9, rfl, rfl, rfl, hq2.1, hq2.2⟩
            clear hq2
            go_wp2_with fail
            refine region_below_tail 35 (by kernel_rfl) (by kernel_rfl) ?_
            simp only [List.take_succ_cons, List.take_zero, List.drop_succ_cons, List.drop_zero]
            repeat (first | go_big_quiet_step (fail) | (refine BigFrame.wpQuiet_want (by rfl) (fun K hK => ?_); go_big_quiet_op; refine ⟨_, fun _ _ => rfl, hK _ ?_⟩; clear hK K) | (refine q_rdw 3 _ _ _ _ rfl rfl (by rfl) rfl (fun w' hw' => ld_int _ _ w' ((hw'.cell (by first | exact hV | exact hH)).trans (by assumption))) ?_; simp only [Act.put, List.setIfInBounds_toArray, List.set_cons_zero, List.set_cons_succ]) | (refine q_rdw 34 _ _ _ _ rfl rfl (by rfl) rfl (fun w' hw' => ld_locs _ _ w' ((hw'.cell hV).trans (by assumption))) ?_; simp only [Act.put, List.setIfInBounds_toArray, List.set_cons_zero, List.set_cons_succ]) | (refine q_rdw 23 _ _ (ad.add (ix.toNat * 2)) (.agg #[.int .i64 (rd_T23 l ix).f0, .int .i64 (rd_T23 l ix).f1]) rfl rfl (by rfl) rfl (fun w' hw' => ld_loc _ _ _ w' ((hw'.cell (Nat.lt_of_lt_of_le hK HB.out.size)).trans e0) ((hw'.cell (show (⟨(ad.add (ix.toNat * 2)).block, (ad.add (ix.toNat * 2)).off + 1, none⟩ : Addr).block < wz.heap.size from Nat.lt_of_lt_of_le hK HB.out.size)).trans e1)) ?_; simp only [Act.put, List.setIfInBounds_toArray, List.set_cons_zero, List.set_cons_succ]) | (refine q_rdw 23 _ _ ⟨w.heap.size, 3, none⟩ (.agg #[.int .i64 d, .int .i64 s]) rfl rfl (by rfl) rfl (fun w' hw' => ld_loc _ _ _ w' ((hw'.cell hH).trans d3) ((hw'.cell (show (⟨w.heap.size, 3 + 1, none⟩ : Addr).block < _ from hH)).trans d4)) ?_; simp only [Act.put, List.setIfInBounds_toArray, List.set_cons_zero, List.set_cons_succ]) | (refine q_val (.bool ((rd_T23 l ix).f0 == d && (rd_T23 l ix).f1 == s)) (some 83) rfl (by rfl) (fun w' _ => by unfold execOp; go_simp) ?_; rw [hq]; simp only [Act.put, List.setIfInBounds_toArray, List.set_cons_zero, List.set_cons_succ]))
            refine wpQuiet_nil ?_
            intro wn hw'
            replace HB := Aside0.mk (below2 HB.out HB.out.size hw')
            replace HH := Aside0.mk (HH.out.keep hw')
            replace HX := Aside0.mk (HX.out.keep hw')
            clear hw' d0 d1 d2 d3 d4 d5 v0 v1 v3 hV hH
            obtain ⟨d0, d1, d2, d3, d4, d5⟩ := six HH.out
            have hH := HH.out.lt
            go_wp2_with fail
            refine region_below_tail 27 (by kernel_rfl) (by kernel_rfl) ?_
            simp only [List.take_succ_cons, List.take_zero, List.drop_succ_cons, List.drop_zero]
            repeat (first | go_big_quiet_step (fail) | (refine BigFrame.wpQuiet_want (by rfl) (fun K hK => ?_); go_big_quiet_op; refine ⟨_, fun _ _ => rfl, hK _ ?_⟩; clear hK K) | (refine q_rdw 30 _ _ ⟨gx, 0, none⟩ (.agg #[.int .i64 V, .int .i64 G, .int .i64 ix, .int .i64 d, .int .i64 s, .string q1]) rfl rfl (by rfl) rfl (fun w' hw' => ld_hdr gx V G ix d s q1 w' (HX.out.keep hw')) ?_; simp only [Act.put, List.setIfInBounds_toArray, List.set_cons_zero, List.set_cons_succ]) | (refine q_rdw 25 _ _ ⟨w.heap.size, 0, none⟩ (.agg #[.int .i64 V, .int .i64 G, .int .i64 ix, .int .i64 d, .int .i64 s, .string q1]) rfl rfl (by rfl) rfl (fun w' hw' => ld_rhdr _ V G ix d s q1 w' (HH.out.keep hw')) ?_; simp only [Act.put, List.setIfInBounds_toArray, List.set_cons_zero, List.set_cons_succ]) | (refine q_rdw 9 _ _ _ _ rfl rfl (by rfl) rfl (fun w' hw' => ld_str _ _ w' ((hw'.cell (by exact hH)).trans (by assumption))) ?_; simp only [Act.put, List.setIfInBounds_toArray, List.set_cons_zero, List.set_cons_succ]) | (refine q_go (f := 18) Try.func18 (by kernel_rfl) rfl #[.agg #[.int .i64 V, .int .i64 G, .int .i64 ix, .int .i64 d, .int .i64 s, .string q1]] _ _ rfl rfl rfl (by simp only [List.map_toArray, List.map_cons, List.map_nil]; rfl) (fun w' _ => sluicegatelaw07_told.calls V G ix d s q1 V G ix d s q1 w' rfl) ?_; simp only [Act.put, List.setIfInBounds_toArray, List.set_cons_zero, List.set_cons_succ]) | (refine q_gow (f := 10) Try.func10 (by kernel_rfl) rfl #[] _ _ rfl rfl (by rfl) (by first | exact Array.map_empty | simp) (fun w' _ => LV w') ?_; simp only [Act.put, List.setIfInBounds_toArray, List.set_cons_zero, List.set_cons_succ]) | (refine q_val (.bool true) (some 88) rfl (by rfl) (fun w' _ => by unfold execOp; go_simp) ?_; simp only [Act.put, List.setIfInBounds_toArray, List.set_cons_zero, List.set_cons_succ]) | (refine q_val (.bool true) (some 106) rfl (by rfl) (fun w' _ => by unfold execOp; go_simp) ?_; simp only [Act.put, List.setIfInBounds_toArray, List.set_cons_zero, List.set_cons_succ]))
            refine wpQuiet_nil ?_
            intro wm hw'
            replace HB := Aside0.mk (below2 HB.out HB.out.size hw')
            go_wp2_with fail
            go_ret
            exact ⟨rfl, HB.out⟩
theorem sectorBack_walk (a0_0 : Int) (a0_1 : Int) (a0_2 : Int) (a0_3 : Int) (a0_4 : Int) (a0_5 : ByteArray) (a1_0 : Int) (a1_1 : Int) (a1_2 : Int) (A1_3 : Option Addr) (c1_3 : Nat) (l1_3 : List S23) (a2 : Int) (w : World) {P0 P1 P2 P3 P4 P5 P6 P7 P8 P9 P10 : Prop} (_ : P0) (_ : P1) (_ : P2) (_ : P3) (_ : P4) (_ : P5) (_ : P6) (_ : P7) (_ : P8) (hr : Kd.C k23 w A1_3 l1_3.length l1_3) (hc : l1_3.length ≤ c1_3) (_ : P9) (_ : P10) :
    Calls Try.prog 6 #[.agg #[.int .i64 a0_0, .int .i64 a0_1, .int .i64 a0_2, .int .i64 a0_3, .int .i64 a0_4, .string a0_5], .agg #[.int .i64 a1_0, .int .i64 a1_1, .int .i64 a1_2, .slice A1_3 l1_3.length c1_3], .int .i64 a2] w fun e w' => e = .returned (.bool true) ∧ Below w.heap.size w w' := by
  by_cases h1 : (a0_5.size : Int) > 200
  · exact back07_out live_calls _ _ _ _ _ _ _ _ _ _ _ _ _ _ (.inl h1)
  · by_cases h2 : (l1_3.length : Int) > 20
    · exact back07_out live_calls _ _ _ _ _ _ _ _ _ _ _ _ _ _ (.inr ⟨by omega, h2⟩)
    · by_cases e1 : (secW a0_0 a0_1 a0_2 a0_3 a0_4 a0_5).2 = 0
      · obtain ⟨hk, hw⟩ := secW_ok e1
        have hR := secR_backI hk
        have hl := secT_len a0_0 a0_1 a0_2 a0_3 a0_4 a0_5.data.toList (chk_ok hk).1 (by rw [size_data]; exact (chk_ok hk).2)
        have hT : (sealL (secT a0_0.toNat a0_1.toNat a0_2.toNat a0_3.toNat a0_4.toNat a0_5.data.toList)).length ≤ 140737488355328 := by rw [sealL_len]; omega
        have hi := (chk_ok hk).1
        obtain ⟨q1, q2, hM, m1, m2⟩ := mine_back hR hT (by omega) a1_0 a1_1 a1_2 l1_3 a2
        exact back07_in live_calls _ _ _ _ _ _ _ _ _ _ _ _ _ _ _ q1 q2 (by omega) (by omega) hr hc (by omega) (by omega) hT hw hR hM m1 m2
      · have hx : secW a0_0 a0_1 a0_2 a0_3 a0_4 a0_5 = (B [], chk a0_0 a0_1 a0_2 a0_3 a0_4 a0_5.size) := by
          unfold secW at e1 ⊢
          split at e1
          · exact absurd rfl e1
          · rename_i h; exact if_neg h
        exact back07_bad live_calls _ _ _ _ _ _ _ _ _ _ _ _ _ _ _ (by omega) (by omega) hx (by rw [hx] at e1; exact e1)
end Go.Proofs.Ytoakibpgmjebeaa
